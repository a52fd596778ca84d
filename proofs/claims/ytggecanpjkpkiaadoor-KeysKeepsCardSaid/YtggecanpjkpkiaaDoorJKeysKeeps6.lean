/- Printed walks of the law's functions, joined by joinpx.py: each function as a plain Lean function, and that Go's code comes to its answer. -/
import Derived.Test.YtggecanpjkpkiaaDoorJKeysKeeps1
import Derived.Test.YtggecanpjkpkiaaDoorPx3
import Derived.Test.YtggecanpjkpkiaaDoorJKeysKeeps2
namespace Go.Proofs.YtggecanpjkpkiaaDoor.P
open Go.RowKit Go.Proofs.YtggecanpjkpkiaaDoorW.PrintWords Go.Proofs.YtggecanpjkpkiaaDoorW.PrintLast Go.Proofs.YtggecanpjkpkiaaDoorW.PrintMore
attribute [local go_sem] max2_int min2_int max_two min_two max_three min_three max_four min_four
attribute [local go_sem] Instr.field asAgg
set_option linter.unusedVariables false
set_option linter.unusedSimpArgs false
set_option maxHeartbeats 8000000
set_option maxRecDepth 100000
attribute [local go_sem high] eqA35
mutual
def shutterref10_Same.j0 : Nat → Bool → Int → Int → List (S35) → Int → Bool → Bool → Int → Int → List (S35) → Int → Bool → Bool → Option (Bool)
 | 0, _, _, _, _, _, _, _, _, _, _, _, _, _ => none
 | k + 1, n, a, b, c, d, e, f, g, h, i, j, l, m => if n = true then (some false) else (shutterref10_Same.l0 k 0 a b c d e f g h i j l m)
def shutterref10_Same.l0 : Nat → Int → Int → Int → List (S35) → Int → Bool → Bool → Int → Int → List (S35) → Int → Bool → Bool → Option (Bool)
 | 0, _, _, _, _, _, _, _, _, _, _, _, _, _ => none
 | k + 1, c, d, e, a, f, g, h, i, j, b, l, m, n => if c < (a.length : Int) then (if 0 ≤ c then (if c < (b.length : Int) then (if (!(((rd_T35 a c).f0) == ((rd_T35 b c).f0)) || ((!(((rd_T35 a c).f1.f0) == ((rd_T35 b c).f1.f0)) || (!(((rd_T35 a c).f1.f1) == ((rd_T35 b c).f1.f1)) || (!(((rd_T35 a c).f1.f2) == ((rd_T35 b c).f1.f2)) || (!(((rd_T35 a c).f1.f3) == ((rd_T35 b c).f1.f3)))))) || (!(((rd_T35 a c).f2) == ((rd_T35 b c).f2))))) = true then (some false) else (shutterref10_Same.l0 k (wrap64 (c + 1)) d e a f g h i j b l m n)) else (none)) else (none)) else (some true)
end
def shutterref10_Same.f (k : Nat) (a : Int) (b : Int) (m : List (S35)) (c : Int) (d : Bool) (e : Bool) (g : Int) (h : Int) (n : List (S35)) (i : Int) (j : Bool) (l : Bool) : Option (Bool) := if a = g then (if b = h then (if c = i then (if (d != j) = true then (shutterref10_Same.j0 k true a b m c d e g h n i j l) else (if (e != l) = true then (shutterref10_Same.j0 k true a b m c d e g h n i j l) else (shutterref10_Same.j0 k ((m.length : Int) != (n.length : Int)) a b m c d e g h n i j l))) else (shutterref10_Same.j0 k true a b m c d e g h n i j l)) else (shutterref10_Same.j0 k true a b m c d e g h n i j l)) else (shutterref10_Same.j0 k true a b m c d e g h n i j l)
theorem shutterref10_Same.mono_l : ∀ k, (∀ d e f g i j l m n o a b c, LeO (shutterref10_Same.j0 k d e f g i j l m n o a b c) (shutterref10_Same.j0 (k + 1) d e f g i j l m n o a b c)) ∧ (∀ d e f g i j l m n o a b c, LeO (shutterref10_Same.l0 k d e f g i j l m n o a b c) (shutterref10_Same.l0 (k + 1) d e f g i j l m n o a b c))
 | 0 => ⟨fun _ _ _ _ _ _ _ _ _ _ _ _ _ r h => by simp [shutterref10_Same.j0] at h, fun _ _ _ _ _ _ _ _ _ _ _ _ _ r h => by simp [shutterref10_Same.l0] at h⟩
 | k + 1 => by
  obtain ⟨p, q⟩ := shutterref10_Same.mono_l k
  refine ⟨?_, ?_⟩
  ·intro d e f g i j l m n o a b c
   unfold shutterref10_Same.j0
   repeat' first
   | (with_reducible exact p _ _ _ _ _ _ _ _ _ _ _ _ _)
   | (with_reducible exact q _ _ _ _ _ _ _ _ _ _ _ _ _)
   | (with_reducible exact LeO.refl _)
   | (with_reducible exact LeO.none _)
   | (with_reducible refine LeO.ite ?_ ?_)
   | (with_reducible refine LeO.bind ?_ (fun _ => ?_))
   | exact p _ _ _ _ _ _ _ _ _ _ _ _ _
   | exact q _ _ _ _ _ _ _ _ _ _ _ _ _
   | exact LeO.none _
   | refine LeO.ite ?_ ?_
   | refine LeO.bind ?_ (fun _ => ?_)
  ·intro d e f g i j l m n o a b c
   unfold shutterref10_Same.l0
   repeat' first
   | (with_reducible exact p _ _ _ _ _ _ _ _ _ _ _ _ _)
   | (with_reducible exact q _ _ _ _ _ _ _ _ _ _ _ _ _)
   | (with_reducible exact LeO.refl _)
   | (with_reducible exact LeO.none _)
   | (with_reducible refine LeO.ite ?_ ?_)
   | (with_reducible refine LeO.bind ?_ (fun _ => ?_))
   | exact p _ _ _ _ _ _ _ _ _ _ _ _ _
   | exact q _ _ _ _ _ _ _ _ _ _ _ _ _
   | exact LeO.none _
   | refine LeO.ite ?_ ?_
   | refine LeO.bind ?_ (fun _ => ?_)
theorem shutterref10_Same.mono : ∀ a0 a1 e g a4 h i j l m a b k, LeO (shutterref10_Same.f k a0 a1 e g a4 h i j l m a b) (shutterref10_Same.f (k + 1) a0 a1 e g a4 h i j l m a b) := by
 intro a0 a1 e g a4 h i j l m a b k
 obtain ⟨c, d⟩ := shutterref10_Same.mono_l k
 unfold shutterref10_Same.f
 repeat' first
   | (with_reducible exact c _ _ _ _ _ _ _ _ _ _ _ _ _)
   | (with_reducible exact d _ _ _ _ _ _ _ _ _ _ _ _ _)
   | (with_reducible exact LeO.refl _)
   | (with_reducible exact LeO.none _)
   | (with_reducible refine LeO.ite ?_ ?_)
   | (with_reducible refine LeO.bind ?_ (fun _ => ?_))
   | exact c _ _ _ _ _ _ _ _ _ _ _ _ _
   | exact d _ _ _ _ _ _ _ _ _ _ _ _ _
   | exact LeO.none _
   | refine LeO.ite ?_ ?_
   | refine LeO.bind ?_ (fun _ => ?_)
theorem shutterref10_Same.calls (k : Nat) (p : Int) (q : Int) (U : Option Addr) (W : Nat) (c : List (S35)) (s : Int) (l : Bool) (m : Bool) (u : Int) (v : Int) (V : Option Addr) (X : Nat) (d : List (S35)) (x : Int) (n : Bool) (o : Bool) (r : Bool) (w : World) (dc : Kd.C k35 w U c.length c) (da : c.length ≤ W) (dd : Kd.C k35 w V d.length d) (db : d.length ≤ X) (h : shutterref10_Same.f k p q c s l m u v d x n o = some r) :
  Calls Tryd.prog 24 #[.agg #[.int .i64 p, .int .i64 q, .slice U c.length W, .int .i64 s, .bool l, .bool m], .agg #[.int .i64 u, .int .i64 v, .slice V d.length X, .int .i64 x, .bool n, .bool o]] w fun e w' => e = .returned (.bool r) ∧ Below w.heap.size w w' := by
 have eP := Tryd.underlying24
 have eQ := Tryd.underlying35
 have c0 := Z dc
 have er := Z da
 clear dc da
 have c3 := Z dd
 have es := Z db
 clear dd db
 have HB := Z (Below.refl w.heap.size w)
 have H : (if p = u then (if q = v then (if s = x then (if (l != n) = true then (shutterref10_Same.j0 k true p q c s l m u v d x n o) else (if (m != o) = true then (shutterref10_Same.j0 k true p q c s l m u v d x n o) else (shutterref10_Same.j0 k ((c.length : Int) != (d.length : Int)) p q c s l m u v d x n o))) else (shutterref10_Same.j0 k true p q c s l m u v d x n o)) else (shutterref10_Same.j0 k true p q c s l m u v d x n o)) else (shutterref10_Same.j0 k true p q c s l m u v d x n o)) = some r := h
 clear h
 have de := Z H
 clear H
 go_enter Tryd.func24, Tryd.ntmps24
 go_upto_region 1 with (first | ((with_reducible refine gate_dst (N := 2) rfl ?_); (try (refine gate_guard (by rfl) ?_; dsimp only)); refine bx_ 2 24 #[.int .i64 p, .int .i64 q, .slice U c.length W, .int .i64 s, .bool l, .bool m] ?_; intro M hg w4 hbox hb; have b := Z (hbox); have cY := Z (ln_ hg : w.heap.size ≤ M); have cW := cY; replace HB := bs_ hb; clear hb hbox hg) | ((with_reducible refine gate_dst (N := 3) rfl ?_); (try (refine gate_guard (by rfl) ?_; dsimp only)); refine bx_ 3 24 #[.int .i64 u, .int .i64 v, .slice V d.length X, .int .i64 x, .bool n, .bool o] ?_; intro O hg w5 hbox hb; have j := Z (hbox); have cZ := Z (ln_ hg : w.heap.size ≤ O); have cX := cZ; replace HB := bs_ hb; have g := nl' b hg; have i := ng' b hg; replace b := kb' b hb; clear hb hbox hg))
 repeat (go_quiet (first | ((with_reducible refine gate_dst (N := 2) rfl ?_); (try (refine gate_guard (by rfl) ?_; dsimp only)); refine bx_ 2 24 #[.int .i64 p, .int .i64 q, .slice U c.length W, .int .i64 s, .bool l, .bool m] ?_; intro M hg w4 hbox hb; have b := Z (hbox); have cY := Z (ln_ hg : w.heap.size ≤ M); have cW := cY; replace HB := bs_ hb; clear hb hbox hg) | ((with_reducible refine gate_dst (N := 3) rfl ?_); (try (refine gate_guard (by rfl) ?_; dsimp only)); refine bx_ 3 24 #[.int .i64 u, .int .i64 v, .slice V d.length X, .int .i64 x, .bool n, .bool o] ?_; intro O hg w5 hbox hb; have j := Z (hbox); have cZ := Z (ln_ hg : w.heap.size ≤ O); have cX := cZ; replace HB := bs_ hb; have g := nl' b hg; have i := ng' b hg; replace b := kb' b hb; clear hb hbox hg)); go_upto_region 1 with (first | ((with_reducible refine gate_dst (N := 2) rfl ?_); (try (refine gate_guard (by rfl) ?_; dsimp only)); refine bx_ 2 24 #[.int .i64 p, .int .i64 q, .slice U c.length W, .int .i64 s, .bool l, .bool m] ?_; intro M hg w4 hbox hb; have b := Z (hbox); have cY := Z (ln_ hg : w.heap.size ≤ M); have cW := cY; replace HB := bs_ hb; clear hb hbox hg) | ((with_reducible refine gate_dst (N := 3) rfl ?_); (try (refine gate_guard (by rfl) ?_; dsimp only)); refine bx_ 3 24 #[.int .i64 u, .int .i64 v, .slice V d.length X, .int .i64 x, .bool n, .bool o] ?_; intro O hg w5 hbox hb; have j := Z (hbox); have cZ := Z (ln_ hg : w.heap.size ≤ O); have cX := cZ; replace HB := bs_ hb; have g := nl' b hg; have i := ng' b hg; replace b := kb' b hb; clear hb hbox hg)))
 (try simp only [Act.put, sA, sB, sC])
 go_cut [47] (fun eq wc => ∃ (kq : Nat) (ah : Bool), eq = .bool ah ∧ Aside0 (shutterref10_Same.j0 kq ah p q c s l m u v d x n o = some r) ∧ Aside0 (kq ≤ k) ∧ Aside0 (wc.heap[M]? = some (.cells #[.int .i64 p, .int .i64 q, (.slice U c.length W), .int .i64 s, .bool l, .bool m] 24 (0, 0))) ∧ Aside0 (wc.heap[O]? = some (.cells #[.int .i64 u, .int .i64 v, (.slice V d.length X), .int .i64 x, .bool n, .bool o] 24 (0, 0))) ∧ Aside0 (Below w.heap.size w wc))
 case first =>
  have H := de.out
  clear de
  by_cases c6 : p = u
  ·rw [if_pos c6] at H
   obtain ⟨Y, cM⟩ := eT_ c6
   clear c6
   (first | rw [Y] | (simp only [i64_w, i32_w]; rw [Y]) | skip)
   by_cases c7 : q = v
   ·rw [if_pos c7] at H
    obtain ⟨cN, cO⟩ := eT_ c7
    clear c7
    by_cases c8 : s = x
    ·rw [if_pos c8] at H
     obtain ⟨cP, cQ⟩ := eT_ c8
     clear c8
     by_cases c9 : (l != n) = true
     ·rw [if_pos c9] at H
      have cR : (l != n) = true := c9
      (try (have cS : decide (l = n) = false := by simpa using c9))
      (try (have cT : (l == n) = false := by simpa using c9))
      (try (have eO : ¬ (l = n) := by simpa using c9))
      clear c9
      have H' := Z H
      clear H
      have ew := g.out
      have eF := i.out
      obtain ⟨ak, al, am, an, ao, ap, bw, bx, bz, bA, bB, bC⟩ := cells6 b.out
      obtain ⟨aq, ar, au, av, aw, ax, bD, bE, bF, bG, bH, bI⟩ := cells6 j.out
      go_wp2
      repeat (go_quiet (fail); try go_wp2)
      go_meet
      case rel => exact ⟨_, (true), (dn_), H', ⟨by first | omega | exact Nat.le_refl _⟩, ⟨vK b.out⟩, ⟨vK j.out⟩, ⟨bl_⟩⟩
     ·rw [if_neg c9] at H
      have cR : (l != n) = false := by simpa using c9
      (try (have cS : decide (l = n) = true := by simpa using c9))
      (try (have cT : (l == n) = true := by simpa using c9))
      clear c9
      by_cases T : (m != o) = true
      ·rw [if_pos T] at H
       have cI : (m != o) = true := T
       (try (have cJ : decide (m = o) = false := by simpa using T))
       (try (have cK : (m == o) = false := by simpa using T))
       (try (have et : ¬ (m = o) := by simpa using T))
       clear T
       have H' := Z H
       clear H
       have ex := g.out
       have eG := i.out
       obtain ⟨ay, az, aA, aB, aC, aD, bJ, bK, bL, bM, bN, bO⟩ := cells6 b.out
       obtain ⟨aE, aF, aG, aH, aI, aJ, bP, bQ, bR, bS, bT, bU⟩ := cells6 j.out
       go_wp2
       repeat (go_quiet (fail); try go_wp2)
       go_meet
       case rel => exact ⟨_, (true), (dn_), H', ⟨by first | omega | exact Nat.le_refl _⟩, ⟨vK b.out⟩, ⟨vK j.out⟩, ⟨bl_⟩⟩
      ·rw [if_neg T] at H
       have cI : (m != o) = false := by simpa using T
       (try (have cJ : decide (m = o) = true := by simpa using T))
       (try (have cK : (m == o) = true := by simpa using T))
       clear T
       have H' := Z H
       clear H
       have ey := g.out
       have eH := i.out
       obtain ⟨aK, aL, aM, aN, aO, aP, bV, bW, bX, bY, bZ, b0⟩ := cells6 b.out
       obtain ⟨aQ, aR, aS, aT, aU, aV, b1, b2, b3, b4, b5, b6⟩ := cells6 j.out
       go_wp2
       repeat (go_quiet (fail); try go_wp2)
       go_meet
       case rel => exact ⟨_, (((c.length : Int) != (d.length : Int))), (dn_), H', ⟨by first | omega | exact Nat.le_refl _⟩, ⟨vK b.out⟩, ⟨vK j.out⟩, ⟨bl_⟩⟩
    ·rw [if_neg c8] at H
     obtain ⟨cP, cQ⟩ := eF_ c8
     have H' := Z H
     clear H
     have ez := g.out
     have eI := i.out
     obtain ⟨aW, aX, aY, aZ, a0, a1, b7, b8, b9, ca, cb, cc⟩ := cells6 b.out
     obtain ⟨a2, a3, a4, a5, a6, a7, cd, ce, cf, cg, ch, ci⟩ := cells6 j.out
     go_wp2
     repeat (go_quiet (fail); try go_wp2)
     go_meet
     case rel => exact ⟨_, (true), (dn_), H', ⟨by first | omega | exact Nat.le_refl _⟩, ⟨vK b.out⟩, ⟨vK j.out⟩, ⟨bl_⟩⟩
   ·rw [if_neg c7] at H
    obtain ⟨cN, cO⟩ := eF_ c7
    have H' := Z H
    clear H
    have eA := g.out
    have eJ := i.out
    obtain ⟨a8, a9, ba, bb, bc, bd, cj, ck, cl, cm, cn, co⟩ := cells6 b.out
    obtain ⟨be, bf, bg, bh, bi, bj, cp, cq, cr, ct, cu, cv⟩ := cells6 j.out
    go_wp2
    repeat (go_quiet (fail); try go_wp2)
    go_meet
    case rel => exact ⟨_, (true), (dn_), H', ⟨by first | omega | exact Nat.le_refl _⟩, ⟨vK b.out⟩, ⟨vK j.out⟩, ⟨bl_⟩⟩
  ·rw [if_neg c6] at H
   obtain ⟨Y, cM⟩ := eF_ c6
   (first | rw [Y] | (simp only [i64_w, i32_w]; rw [Y]) | skip)
   have H' := Z H
   clear H
   have eB := g.out
   have eK := i.out
   obtain ⟨bk, bl, bm, bn, bo, bp, cw, cx, cy, cz, cA, cB⟩ := cells6 b.out
   obtain ⟨bq, br, bs, bt, bu, bv, cC, cD, cE, cF, cG, cH⟩ := cells6 j.out
   go_wp2
   repeat (go_quiet (fail); try go_wp2)
   go_meet
   case rel => exact ⟨_, (true), (dn_), H', ⟨by first | omega | exact Nat.le_refl _⟩, ⟨vK b.out⟩, ⟨vK j.out⟩, ⟨bl_⟩⟩
 case rest =>
  clear de
  obtain ⟨kq, ah, rfl, HA, dk, b, j, HB⟩ := hcut
  cases kq with
  | zero => exact absurd HA.out (by simp [shutterref10_Same.j0])
  | succ df =>
   have H := HA.out
   clear HA
   simp only [shutterref10_Same.j0] at H
   by_cases cL : ah = true
   ·subst cL
    have H1 : (some false) = some r := by rw [if_pos rfl] at H; exact H
    clear H
    have H := H1
    clear H1
    obtain rfl := Option.some.inj H
    go_wp2
    repeat (go_quiet (fail); try go_wp2)
    go_ret
    exact ⟨er_, bl_⟩
   ·replace cL := Bool.eq_false_iff.mpr cL
    subst cL
    have H1 : (shutterref10_Same.l0 df 0 p q c s l m u v d x n o) = some r := by rw [if_neg (show ¬ (false = true) by decide)] at H; exact H
    clear H
    have H := H1
    clear H1
    have H' := Z H
    clear H
    go_wp2
    repeat (go_quiet (fail); try go_wp2)
    go_loopg [5] df (fun kq v5 w' => ∃ (a : Int), v5 = .int .i64 a ∧ Aside0 (shutterref10_Same.l0 kq a p q c s l m u v d x n o = some r) ∧ Aside0 (kq ≤ df) ∧ Aside0 (w'.heap[M]? = some (.cells #[.int .i64 p, .int .i64 q, (.slice U c.length W), .int .i64 s, .bool l, .bool m] 24 (0, 0))) ∧ Aside0 (w'.heap[O]? = some (.cells #[.int .i64 u, .int .i64 v, (.slice V d.length X), .int .i64 x, .bool n, .bool o] 24 (0, 0))) ∧ Aside0 (Below w.heap.size w w'))
    case atStart => exact ⟨(0), (dn_), H', ⟨Nat.le_refl _⟩, ⟨vK b.out⟩, ⟨vK j.out⟩, ⟨bl_⟩⟩
    case round =>
     clear H'
     obtain ⟨a, rfl, HA, dl, b, j, HB⟩ := hrel
     cases gk with
     | zero => exact absurd HA.out (by simp [shutterref10_Same.l0])
     | succ k2 =>
      have H := HA.out
      clear HA
      simp only [shutterref10_Same.l0] at H
      by_cases ai : a < (c.length : Int)
      ·rw [if_pos ai] at H
       have di : decide (a < (c.length : Int)) = true := decide_eq_true ai
       clear ai
       by_cases c4 : 0 ≤ a
       ·rw [if_pos c4] at H
        have eu : decide (0 ≤ a) = true := decide_eq_true c4
        clear c4
        by_cases c5 : a < (d.length : Int)
        ·rw [if_pos c5] at H
         have ev : decide (a < (d.length : Int)) = true := decide_eq_true c5
         clear c5
         by_cases aj : (!(((rd_T35 c a).f0) == ((rd_T35 d a).f0)) || ((!(((rd_T35 c a).f1.f0) == ((rd_T35 d a).f1.f0)) || (!(((rd_T35 c a).f1.f1) == ((rd_T35 d a).f1.f1)) || (!(((rd_T35 c a).f1.f2) == ((rd_T35 d a).f1.f2)) || (!(((rd_T35 c a).f1.f3) == ((rd_T35 d a).f1.f3)))))) || (!(((rd_T35 c a).f2) == ((rd_T35 d a).f2))))) = true
         ·rw [if_pos aj] at H
          have dj : (!(((rd_T35 c a).f0) == ((rd_T35 d a).f0)) || ((!(((rd_T35 c a).f1.f0) == ((rd_T35 d a).f1.f0)) || (!(((rd_T35 c a).f1.f1) == ((rd_T35 d a).f1.f1)) || (!(((rd_T35 c a).f1.f2) == ((rd_T35 d a).f1.f2)) || (!(((rd_T35 c a).f1.f3) == ((rd_T35 d a).f1.f3)))))) || (!(((rd_T35 c a).f2) == ((rd_T35 d a).f2))))) = true := aj
          clear aj
          obtain rfl := Option.some.inj H
          have eC := g.out
          have eL := i.out
          obtain ⟨dm, dn, dp, dq, dr, ds, dR, dS, dT, dU, dV, dW⟩ := cells6 b.out
          have aa : 0 ≤ (a : Int) := od_
          have ac : a < (c.length : Int) := od_
          obtain ⟨dg, cU, y, z, A, B, D, E⟩ := at_T35 c0.out a aa ac
          cases cU
          replace y := (HB.out.cell (bk_ w _ y)).trans y
          replace z := (HB.out.cell (bk_ w _ z)).trans z
          replace A := (HB.out.cell (bk_ w _ A)).trans A
          replace B := (HB.out.cell (bk_ w _ B)).trans B
          replace D := (HB.out.cell (bk_ w _ D)).trans D
          replace E := (HB.out.cell (bk_ w _ E)).trans E
          replace aa := eq_true aa
          replace ac := eq_true ac
          obtain ⟨dt, du, dv, dw, dx, dy, dX, dY, dZ, d0, d1, d2⟩ := cells6 j.out
          have ab : 0 ≤ (a : Int) := od_
          have ad : a < (d.length : Int) := od_
          obtain ⟨dh, cV, F, G, I, J, K, L⟩ := at_T35 c3.out a ab ad
          cases cV
          replace F := (HB.out.cell (bk_ w _ F)).trans F
          replace G := (HB.out.cell (bk_ w _ G)).trans G
          replace I := (HB.out.cell (bk_ w _ I)).trans I
          replace J := (HB.out.cell (bk_ w _ J)).trans J
          replace K := (HB.out.cell (bk_ w _ K)).trans K
          replace L := (HB.out.cell (bk_ w _ L)).trans L
          replace ab := eq_true ab
          replace ad := eq_true ad
          go_wp2
          repeat (go_quiet (fail); try go_wp2)
          go_ret
          exact ⟨er_, bl_⟩
         ·rw [if_neg aj] at H
          have dj : (!(((rd_T35 c a).f0) == ((rd_T35 d a).f0)) || ((!(((rd_T35 c a).f1.f0) == ((rd_T35 d a).f1.f0)) || (!(((rd_T35 c a).f1.f1) == ((rd_T35 d a).f1.f1)) || (!(((rd_T35 c a).f1.f2) == ((rd_T35 d a).f1.f2)) || (!(((rd_T35 c a).f1.f3) == ((rd_T35 d a).f1.f3)))))) || (!(((rd_T35 c a).f2) == ((rd_T35 d a).f2))))) = false := by simpa using aj
          clear aj
          have H' := Z H
          clear H
          have eD := g.out
          have eM := i.out
          obtain ⟨dz, dA, dB, dC, dD, dE, d3, d4, d5, d6, d7, d8⟩ := cells6 b.out
          have aa : 0 ≤ (a : Int) := od_
          have ac : a < (c.length : Int) := od_
          obtain ⟨dg, cU, y, z, A, B, D, E⟩ := at_T35 c0.out a aa ac
          cases cU
          replace y := (HB.out.cell (bk_ w _ y)).trans y
          replace z := (HB.out.cell (bk_ w _ z)).trans z
          replace A := (HB.out.cell (bk_ w _ A)).trans A
          replace B := (HB.out.cell (bk_ w _ B)).trans B
          replace D := (HB.out.cell (bk_ w _ D)).trans D
          replace E := (HB.out.cell (bk_ w _ E)).trans E
          replace aa := eq_true aa
          replace ac := eq_true ac
          obtain ⟨dF, dG, dH, dI, dJ, dK, d9, ea, eb, ec, ed, ee⟩ := cells6 j.out
          have ab : 0 ≤ (a : Int) := od_
          have ad : a < (d.length : Int) := od_
          obtain ⟨dh, cV, F, G, I, J, K, L⟩ := at_T35 c3.out a ab ad
          cases cV
          replace F := (HB.out.cell (bk_ w _ F)).trans F
          replace G := (HB.out.cell (bk_ w _ G)).trans G
          replace I := (HB.out.cell (bk_ w _ I)).trans I
          replace J := (HB.out.cell (bk_ w _ J)).trans J
          replace K := (HB.out.cell (bk_ w _ K)).trans K
          replace L := (HB.out.cell (bk_ w _ L)).trans L
          replace ab := eq_true ab
          replace ad := eq_true ad
          go_wp2
          repeat (go_quiet (fail); try go_wp2)
          go_roundg k2
          case measure => have := dk.out; have := dl.out; omega
          case rel => exact ⟨(wrap64 (a + 1)), (dn_), H', ⟨by have := dk.out; have := dl.out; omega⟩, ⟨vK b.out⟩, ⟨vK j.out⟩, ⟨bl_⟩⟩
        ·rw [if_neg c5] at H
         exact absurd H (by simp)
       ·rw [if_neg c4] at H
        exact absurd H (by simp)
      ·rw [if_neg ai] at H
       have di : decide (a < (c.length : Int)) = false := decide_eq_false ai
       clear ai
       obtain rfl := Option.some.inj H
       have eE := g.out
       have eN := i.out
       obtain ⟨dL, dM, dN, dO, dP, dQ, ef, eg, eh, ei, ej, ek⟩ := cells6 b.out
       go_wp2
       repeat (go_quiet (fail); try go_wp2)
       go_ret
       exact ⟨er_, bl_⟩
end Go.Proofs.YtggecanpjkpkiaaDoor.P
namespace Go.Proofs.YtggecanpjkpkiaaDoor.P
open Go.RowKit Go.Proofs.YtggecanpjkpkiaaDoorW.PrintWords Go.Proofs.YtggecanpjkpkiaaDoorW.PrintLast Go.Proofs.YtggecanpjkpkiaaDoorW.PrintMore
attribute [local go_sem] max2_int min2_int max_two min_two max_three min_three max_four min_four
attribute [local go_sem] Instr.field asAgg
set_option linter.unusedVariables false
set_option linter.unusedSimpArgs false
set_option maxHeartbeats 8000000
set_option maxRecDepth 100000
section
def api_Where.f (a : Option Er) (b : List S164) : Option Int :=
 match a with
 | none => some (-1)
 | some (.num _) => some (-1)
 | some .spot => match b with | [s] => some s.f0 | _ => none
theorem api_Where.calls (c : Option Er) (g : Option Addr) (d : Nat) (a : List S164) (r : Int) (w : World) (b : Kd.C k164 w g a.length a) (i : a.length ≤ d) (hG : LaidG w) (h : api_Where.f c a = some r) :
  Calls Tryd.prog 28 #[errW (.slice g a.length d) c] w fun e w' => e = .returned (.int .i64 r) ∧ Below w.heap.size w w' := by
 rcases c with _ | q
 ·obtain rfl := Option.some.inj h
  rw [errW_none]
  clear b h
  go_enter Tryd.func28, Tryd.ntmps28
  go_wp2
  go_ret
  exact ⟨rfl, below_alloc (Below.refl _ _) _⟩
 ·cases q with
  | num n =>
   obtain rfl := Option.some.inj h
   rw [errW_some, show (Er.num n).ty = 52 from rfl, show (Er.num n).pay _ = .int .i64 n from rfl]
   clear b h
   have HA := Z (EW.miss n ⟨w.heap.size, 0, none⟩ (.pointer none) (w.alloc (.cells #[.pointer none] 76)) (laidG_alloc hG _) (by simp) (by rw [frozen?_alloc_cells]; simp [World.frozen?]))
   go_enter Tryd.func28, Tryd.ntmps28
   go_wp2_with (go_at_call 49; refine HA.out.mono ?_; rintro e w' ⟨rfl, rfl⟩)
   go_ret
   exact ⟨rfl, below_alloc (below_alloc (below_alloc (below_alloc (Below.refl _ _) _) _) _) _⟩
  | spot =>
   match a, b, i, h with
   | [s], hr, hc, h =>
    obtain rfl := Option.some.inj h
    obtain ⟨ad, rfl, j, k⟩ := spot_at hr
    rw [errW_some, show Er.spot.ty = 76 from rfl, show Er.spot.pay (.slice (some ad) ([s] : List S164).length d) = .pointer (some ad) from rfl]
    have hlt := bk_ w ad j
    have HA := Z ((EW.hit ad ⟨w.heap.size, 0, none⟩ (.pointer none) (w.alloc (.cells #[.pointer none] 76)) (laidG_alloc hG _) (by simp) (by rw [frozen?_alloc_cells]; simp [World.frozen?])).mono (R' := fun ev w' => ev = .returned (.bool true) ∧ (w'.cell? ⟨w.heap.size, 0, none⟩ = some (.pointer (some ad)) ∧ w'.cell? ad = some (.int .i64 s.f0) ∧ Aside0 (Below w.heap.size w w'))) (fun ev w' h_ => ⟨h_.1, by
     rw [h_.2]
     refine ⟨(blk_cell (blk_put (cs' := #[.pointer (some ad)]) (pK (pK (pK (pK (blk_new w _))))) 0 _ rfl) 0).trans rfl, ?_, ⟨below_set (below_alloc (below_alloc (below_alloc (below_alloc (below_alloc (Below.refl _ _) _) _) _) _) _) (Nat.le_refl _)⟩⟩
     refine (cell_far (p := ⟨w.heap.size, 0, none⟩) (Nat.ne_of_lt hlt) _).trans ?_
     rw [World.cell?_alloc_lt _ _ ad (by simp; omega), World.cell?_alloc_lt _ _ ad (by simp; omega), World.cell?_alloc_lt _ _ ad (by simp; omega), World.cell?_alloc_lt _ _ ad (by simp; omega), World.cell?_alloc_lt _ _ ad hlt]; exact j⟩))
    have hu := Tryd.underlying79
    have l := Tryd.underlying76
    clear j k hr hlt h
    go_enter Tryd.func28, Tryd.ntmps28
    go_wp2_with (go_at_call 49; refine HA.out.mono ?_; rintro e w' ⟨rfl, hP, hA, HB⟩)
    go_ret
    exact ⟨rfl, HB.out⟩
end
def shutterref10_Copy.f (c : Int) (d : Int) (a : List (S35)) (e : Int) (g : Bool) (h : Bool) : Option (Int × Int × (List (S35)) × Int × Bool × Bool) := (some (([] : List (S35)) : List (S35))).bind fun b => (if b.length + a.length < 3518437208883 then (some (c, d, (b ++ a), e, g, h)) else (none))
theorem shutterref10_Copy.calls (c : Int) (i : Int) (I : Option Addr) (J : Nat) (d : List (S35)) (l : Int) (m : Bool) (n : Bool) (S : Int) (T : Int) (U : List (S35)) (V : Int) (W : Bool) (X : Bool) (w : World) (Q : Kd.C k35 w I d.length d) (P : d.length ≤ J) (h : shutterref10_Copy.f c i d l m n = some (S, T, U, V, W, X)) :
  Calls Tryd.prog 23 #[.agg #[.int .i64 c, .int .i64 i, .slice I d.length J, .int .i64 l, .bool m, .bool n]] w fun e w' => ∃ ae : Value, e = .returned (.agg #[.int .i64 S, .int .i64 T, ae, .int .i64 V, .bool W, .bool X]) ∧ Kd.R k35 35 w' w.heap.size (fun _ => True) ae U ∧ Below w.heap.size w w' := by
 have a7 := Tryd.underlying24
 have Y := Z Q
 have a4 := Z P
 clear Q P
 have HB := Z (Below.refl w.heap.size w)
 have H : ((some (([] : List (S35)) : List (S35))).bind fun v => (if v.length + d.length < 3518437208883 then (some (c, i, (v ++ d), l, m, n)) else (none))) = some (S, T, U, V, W, X) := h
 clear h
 obtain ⟨v, y⟩ : ∃ y_ : List (S35), y_ = (([] : List (S35))) := ⟨_, rfl⟩
 replace H : (if v.length + d.length < 3518437208883 then (some (c, i, (v ++ d), l, m, n)) else (none)) = some (S, T, U, V, W, X) := by first | (rw [y]; with_reducible exact H) | (have G := (Option.bind_some _ _).symm.trans H; rw [y]; with_reducible exact G) | (have G := (Option.bind_some _ _).symm.trans H; with_reducible exact G) | with_reducible exact H | (rw [y]; exact H) | exact H
 have O := Z y
 clear y
 by_cases c2 : v.length + d.length < 3518437208883
 ·rw [if_pos c2] at H
  have af := Z c2
  clear c2
  obtain ⟨x, z⟩ : ∃ y_ : List (S35), y_ = (v ++ d) := ⟨_, rfl⟩
  replace H : (some (c, i, x, l, m, n)) = some (S, T, U, V, W, X) := by first | (rw [z]; with_reducible exact H) | (have G := (Option.bind_some _ _).symm.trans H; rw [z]; with_reducible exact G) | (have G := (Option.bind_some _ _).symm.trans H; with_reducible exact G) | with_reducible exact H | (rw [z]; exact H) | exact H
  have aa := Z z
  clear z
  simp only [Option.some.injEq, Prod.mk.injEq] at H
  obtain ⟨rfl, rfl, rfl, rfl, rfl, rfl⟩ := H
  go_enter Tryd.func23, Tryd.ntmps23
  go_wp2_with (first | ((with_reducible refine gate_dst (N := 1) rfl ?_); refine bx_ 1 24 #[.int .i64 c, .int .i64 i, .slice I d.length J, .int .i64 l, .bool m, .bool n] ?_; intro F hg w3 hbox hb; have a := Z (hbox); have a2 := Z (ln_ hg : w.heap.size ≤ F); have a0 := a2; replace HB := bs_ hb; clear hb hbox hg) | ((with_reducible refine gate_dst (N := 2) rfl ?_); refine bx_ 2 24 #[.int .i64 0, .int .i64 0, .slice none 0 0, .int .i64 0, .bool false, .bool false] ?_; intro k hg w4 hbox hb; have j := Z (hbox); have a3 := Z (ln_ hg : w.heap.size ≤ k); have a1 := a3; replace HB := bs_ hb; have K := nl' a hg; have D := ng' a hg; replace a := kb' a hb; clear hb hbox hg) | ((with_reducible refine gate_dst (N := 3) rfl ?_); refine Kd.R_lit k35 _ 35 ?hg (N := 3) ?hd (xs := ([] : List (S35))) (inner := []) (ok := fun _ => True) (okp := fun _ => True) ?hr ?hp (fun _ hk => hk) trivial (Below.refl _ _) (Nat.le_refl _) (by simp) ?_; (case hd => rfl); (case hg => rfl); (case hr => first | (go_simp; done) | (go_simp; rfl)); (case hp => exact (Reps.none _ _)); intro ah w5 L hb hg_ hnew_; clear hg_ hnew_; (first | rw [← O.out] at L | (simp only [Int.reduceToNat] at L; rw [← O.out] at L)); have E := Z (Kd.R_lower L (below_size bl_)); replace a := kb' a hb; replace j := kb' j hb; replace HB := bs_ hb; clear hb L; have a5 := K.out; have a6 := D.out; obtain ⟨aK, aM, aN, aP, aQ, aT, aU, aV, aW, aX, aY, aZ⟩ := cells6 a.out) | ((with_reducible refine gate_builtin (b := .append) (xs := #[.tmp 3, .tmp 5]) rfl ?_); at_builtin; refine Kd.R_append_rows k35 (w0 := w) w.heap.size rfl (.tmp 3) (.tmp 5) 22 35 (.agg #[(.bool false), (.bool false), (.bool false), (.int .i64 0), (.bool false), (.int .u8 0)]) 40 rfl Tryd.underlying22 info35 rfl (by decide) (by omega) ah v d _ _ _ (fun _ => True) (fun _ => False) rfl rfl ?aO ?aR (fun _ _ h => h) (fun _ h => h.elim) ?aF ?aB ?aS ?aL ?_; (case aR => repeat (first | exact (Kd.C_below Y.out HB.out) | (with_reducible apply pC))); (case aB => exact bl_); (case aF => exact (fun _ _ => trivial)); (case aO => exact (by (with_reducible repeat apply pR); exact E.out)); (case aS => exact (below_size bl_)); (case aL => have := af.out; omega); intro a8 w9 ho hb hg hat; rw [← aa.out] at ho; replace a := Z (blk_grown (g := F) (o := .cells #[.int .i64 c, .int .i64 i, .slice I d.length J, .int .i64 l, .bool m, .bool n] 24 (0, 0)) (vK a.out) hg (Kd.R_ne E.out a.out (by decide))); replace j := Z (blk_grown (g := k) (o := .cells #[.int .i64 0, .int .i64 0, .slice none 0 0, .int .i64 0, .bool false, .bool false] 24 (0, 0)) (vK j.out) hg (Kd.R_ne E.out j.out (by decide))); replace HB := Z (hb); have M := Z (ho); clear E; clear ho hb hg hat; obtain ⟨A, B, ag⟩ := Kd.R_slice M.out; subst ag; obtain ⟨ai, aj, ak, al, am, an, aw, ax, ay, az, aA, aC⟩ := cells6 a.out; obtain ⟨ao, ap, aq, ar, au, av, aD, aE, aG, aH, aI, aJ⟩ := cells6 j.out))
  refine bodyPost_ret (results_cell_row rfl _ _ k 24 #[.int .i64 c, .int .i64 i, .slice A x.length B, .int .i64 l, .bool m, .bool n] (0, 0) _ rfl (by (with_reducible repeat apply pK); refine blk_put (cs := #[.int .i64 c, .int .i64 i, .slice A x.length B, .int .i64 l, .bool m, .bool false]) ?_ 5 _ rfl; (with_reducible repeat apply pK); refine blk_put (cs := #[.int .i64 c, .int .i64 i, .slice A x.length B, .int .i64 l, .bool false, .bool false]) ?_ 4 _ rfl; (with_reducible repeat apply pK); refine blk_put (cs := #[.int .i64 c, .int .i64 i, .slice A x.length B, .int .i64 0, .bool false, .bool false]) ?_ 3 _ rfl; (with_reducible repeat apply pK); refine blk_put (cs := #[.int .i64 c, .int .i64 i, .slice none 0 0, .int .i64 0, .bool false, .bool false]) ?_ 2 _ rfl; (with_reducible repeat apply pK); refine blk_put (cs := #[.int .i64 c, .int .i64 0, .slice none 0 0, .int .i64 0, .bool false, .bool false]) ?_ 1 _ rfl; (with_reducible repeat apply pK); refine blk_put (cs := #[.int .i64 0, .int .i64 0, .slice none 0 0, .int .i64 0, .bool false, .bool false]) ?_ 0 _ rfl; (with_reducible repeat apply pK); refine blk_far ?_ D.out _; (with_reducible repeat apply pK); exact j.out) Tryd.underlying24 rfl (by kernel_rfl)) rfl ?_
  exact ⟨_, er_, by (with_reducible repeat apply pR); exact Kd.R_mono (f6R k (Kd.R_far (p := ⟨F, 2, none⟩) (Kd.R_types (Kd.R_types M.out a.out (by decide)) j.out (by decide)) (fun _ hk => hk.1.2) (.slice A x.length B)) (fun _ hk => hk.2)) (fun _ hk => trivial), bl_⟩
 ·rw [if_neg c2] at H
  exact absurd H (by simp)
def shutterref14_Modify.f (k : Nat) (c : Int) (d : Int) (i : List (S35)) (e : Int) (g : Bool) (h : Bool) (a1 : Int) : Option (Int × Int × (List (S35)) × Int × Bool × Bool) := (shutterref10_Copy.f c d i e g h).bind fun a => ((shutterref11_Begin.f k c d i e g h a1).bind fun b => (if b ≥ 0 then (if 0 ≤ b then (if b < (a.2.2.1.length : Int) then (some (a.1, a.2.1, (a.2.2.1.set (b : Int).toNat (⟨(rd_T35 a.2.2.1 b).f0, (⟨(rd_T35 a.2.2.1 b).f1.f0, (rd_T35 a.2.2.1 b).f1.f1, (rd_T35 a.2.2.1 b).f1.f2, true⟩ : S33), (rd_T35 a.2.2.1 b).f2⟩ : S35)), a.2.2.2.1, a.2.2.2.2.1, a.2.2.2.2.2)) else (none)) else (none)) else (some (a.1, a.2.1, a.2.2.1, a.2.2.2.1, a.2.2.2.2.1, a.2.2.2.2.2))))
theorem shutterref14_Modify.mono : ∀ a0 a1 a b a4 c d k, LeO (shutterref14_Modify.f k a0 a1 a b a4 c d) (shutterref14_Modify.f (k + 1) a0 a1 a b a4 c d) := by
 intro a0 a1 a b a4 c d k
 unfold shutterref14_Modify.f
 repeat' first
   | (with_reducible exact shutterref11_Begin.mono _ _ _ _ _ _ _ _)
   | (with_reducible exact LeO.refl _)
   | (with_reducible exact LeO.none _)
   | (with_reducible refine LeO.ite ?_ ?_)
   | (with_reducible refine LeO.bind ?_ (fun _ => ?_))
   | exact shutterref11_Begin.mono _ _ _ _ _ _ _ _
   | exact LeO.none _
   | refine LeO.ite ?_ ?_
   | refine LeO.bind ?_ (fun _ => ?_)
theorem shutterref14_Modify.calls (k : Nat) (z : Int) (A : Int) (Q : Option Addr) (S : Nat) (y : List (S35)) (B : Int) (D : Bool) (E : Bool) (a1 : Int) (r1 : Int) (r2 : Int) (r3 : List (S35)) (r4 : Int) (r5 : Bool) (r6 : Bool) (w : World) (aw : Kd.C k35 w Q y.length y) (ar : y.length ≤ S) (h : shutterref14_Modify.f k z A y B D E a1 = some (r1, r2, r3, r4, r5, r6)) :
  Calls Tryd.prog 37 #[.agg #[.int .i64 z, .int .i64 A, .slice Q y.length S, .int .i64 B, .bool D, .bool E], .int .i64 a1] w fun e w' => ∃ aZ : Value, e = .returned (.agg #[.int .i64 r1, .int .i64 r2, aZ, .int .i64 r4, .bool r5, .bool r6]) ∧ Kd.R k35 35 w' w.heap.size (fun _ => True) aZ r3 ∧ Below w.heap.size w w' := by
 have dQ := Tryd.underlying24
 have ah := Z aw
 have ag := Z ar
 clear aw ar
 have HB := Z (Below.refl w.heap.size w)
 have H : ((shutterref10_Copy.f z A y B D E).bind fun x => ((shutterref11_Begin.f k z A y B D E a1).bind fun a => (if a ≥ 0 then (if 0 ≤ a then (if a < (x.2.2.1.length : Int) then (some (x.1, x.2.1, (x.2.2.1.set (a : Int).toNat (⟨(rd_T35 x.2.2.1 a).f0, (⟨(rd_T35 x.2.2.1 a).f1.f0, (rd_T35 x.2.2.1 a).f1.f1, (rd_T35 x.2.2.1 a).f1.f2, true⟩ : S33), (rd_T35 x.2.2.1 a).f2⟩ : S35)), x.2.2.2.1, x.2.2.2.2.1, x.2.2.2.2.2)) else (none)) else (none)) else (some (x.1, x.2.1, x.2.2.1, x.2.2.2.1, x.2.2.2.2.1, x.2.2.2.2.2))))) = some (r1, r2, r3, r4, r5, r6) := h
 clear h
 replace H := Option.bind_eq_some_iff.mp H
 obtain ⟨⟨F, G, b, I, J, K⟩, aT, H⟩ := H
 replace H : ((shutterref11_Begin.f k z A y B D E a1).bind fun a => (if a ≥ 0 then (if 0 ≤ a then (if a < (b.length : Int) then (some (F, G, (b.set (a : Int).toNat (⟨(rd_T35 b a).f0, (⟨(rd_T35 b a).f1.f0, (rd_T35 b a).f1.f1, (rd_T35 b a).f1.f2, true⟩ : S33), (rd_T35 b a).f2⟩ : S35)), I, J, K)) else (none)) else (none)) else (some (F, G, b, I, J, K)))) = some (r1, r2, r3, r4, r5, r6) := H
 have A3 := Z aT
 clear aT
 replace H := Option.bind_eq_some_iff.mp H
 obtain ⟨a, aU, H⟩ := H
 replace H : (if a ≥ 0 then (if 0 ≤ a then (if a < (b.length : Int) then (some (F, G, (b.set (a : Int).toNat (⟨(rd_T35 b a).f0, (⟨(rd_T35 b a).f1.f0, (rd_T35 b a).f1.f1, (rd_T35 b a).f1.f2, true⟩ : S33), (rd_T35 b a).f2⟩ : S35)), I, J, K)) else (none)) else (none)) else (some (F, G, b, I, J, K))) = some (r1, r2, r3, r4, r5, r6) := H
 have A4 := Z aU
 clear aU
 by_cases c5 : a ≥ 0
 ·rw [if_pos c5] at H
  have a0 : decide (0 ≤ a) = true := decide_eq_true c5
  clear c5
  by_cases c6 : 0 ≤ a
  ·rw [if_pos c6] at H
   have dN : decide (0 ≤ a) = true := decide_eq_true c6
   clear c6
   by_cases c7 : a < (b.length : Int)
   ·rw [if_pos c7] at H
    have dO : decide (a < (b.length : Int)) = true := decide_eq_true c7
    clear c7
    obtain ⟨aL, af⟩ : ∃ y_ : List (S35), y_ = (b.set (a : Int).toNat (⟨(rd_T35 b a).f0, (⟨(rd_T35 b a).f1.f0, (rd_T35 b a).f1.f1, (rd_T35 b a).f1.f2, true⟩ : S33), (rd_T35 b a).f2⟩ : S35)) := ⟨_, rfl⟩
    replace H : (some (F, G, aL, I, J, K)) = some (r1, r2, r3, r4, r5, r6) := by first | (rw [af]; with_reducible exact H) | (have aE := (Option.bind_some _ _).symm.trans H; rw [af]; with_reducible exact aE) | (have aE := (Option.bind_some _ _).symm.trans H; with_reducible exact aE) | with_reducible exact H | (rw [af]; exact H) | exact H
    have aS := Z af
    clear af
    simp only [Option.some.injEq, Prod.mk.injEq] at H
    obtain ⟨rfl, rfl, rfl, rfl, rfl, rfl⟩ := H
    go_enter Tryd.func37, Tryd.ntmps37
    go_wp2_with (first | ((with_reducible refine gate_dst (N := 2) rfl ?_); refine bx_ 2 24 #[.int .i64 z, .int .i64 A, .slice Q y.length S, .int .i64 B, .bool D, .bool E] ?_; intro U hg w9 hbox hb; have c := Z (hbox); have aP := Z (ln_ hg : w.heap.size ≤ U); have aM := aP; replace HB := bs_ hb; clear hb hbox hg) | ((with_reducible refine gate_dst (N := 4) rfl ?_); refine bx_ 4 24 #[.int .i64 0, .int .i64 0, .slice none 0 0, .int .i64 0, .bool false, .bool false] ?_; intro l hg dV hbox hb; have d := Z (hbox); have aQ := Z (ln_ hg : w.heap.size ≤ l); have aN := aQ; replace HB := bs_ hb; have V := nl' c hg; have W := ng' c hg; replace c := kb' c hb; clear hb hbox hg; have dv := V.out; have dB := W.out; obtain ⟨a7, a8, a9, ba, bb, bc, cc, cd, ce, cf, cg, ch⟩ := cells6 c.out) | ((with_reducible refine gate_callee (f := 23) rfl ?_); refine goesL_ (some 8) rfl rfl Tryd.func23 (by kernel_rfl) rfl #[.agg #[.int .i64 z, .int .i64 A, .slice Q y.length S, .int .i64 B, .bool D, .bool E]] rfl ag_ ?_; (with_reducible refine (shutterref10_Copy.calls z A _ _ y B D E F G b I J K _ ?side1 ?side2 A3.out).mono ?_); (case side1 => repeat (first | exact (Kd.C_below ah.out HB.out) | (with_reducible apply pC))); (case side2 => exact ag.out); rintro e dW ⟨a6, rfl, am, hb⟩; refine ⟨_, rfl, ?_⟩; have i := Z (Kd.R_lower am (below_size bl_)); replace c := kb' c hb; replace d := kb' d hb; replace HB := bs_ hb; clear hb am) | ((with_reducible refine gate_dst (N := 5) rfl ?_); refine bx_ 5 24 #[.int .i64 0, .int .i64 0, .slice none 0 0, .int .i64 0, .bool false, .bool false] ?_; intro m hg dX hbox hb; replace i := rb' i hb; have u := Z (hbox); have aR := Z (ln_ hg : w.heap.size ≤ m); have aO := aR; replace HB := bs_ hb; have O := nl' c hg; have X := ng' c hg; replace c := kb' c hb; have P := nl' d hg; have Y := ng' d hg; replace d := kb' d hb; clear hb hbox hg; have dw := X.out; have dC := O.out; have dx := Y.out; have dD := P.out; obtain ⟨bd, be, bf, bg, bh, bi, ci, cj, ck, cl, cm, cn⟩ := cells6 u.out; obtain ⟨aD, ac, a2⟩ := Kd.R_slice i.out; subst a2; obtain ⟨bj, bk, bl, bm, bn, bo, co, cp, cq, cr, ct, cu⟩ := cells6 c.out) | ((with_reducible refine gate_callee (f := 21) rfl ?_); refine goesL_ (some 11) rfl rfl Tryd.func21 (by kernel_rfl) rfl #[.agg #[.int .i64 z, .int .i64 A, .slice Q y.length S, .int .i64 B, .bool D, .bool E], .int .i64 a1] rfl ag_ ?_; (with_reducible refine (shutterref11_Begin.calls k z A _ _ y B D E a1 a _ ?side1 ?side2 A4.out).mono ?_); (case side1 => exact Kd.C_below ah.out bl_); (case side2 => exact ag.out); rintro e T ⟨rfl, hb⟩; refine ⟨_, rfl, ?_⟩; replace i := Z (Kd.R_below (by (with_reducible repeat apply pR); exact (Kd.R_mono (f6R m (Kd.R_types i.out u.out (by decide)) (fun _ hk => hk.2)) (fun _ h_ => h_.1))) hb); replace c := Z (blk_below (g := U) (o := .cells #[.int .i64 z, .int .i64 A, .slice Q y.length S, .int .i64 B, .bool D, .bool E] 24 (0, 0)) (blk_off c.out O.out off2_) hb); replace d := Z (blk_below (g := l) (o := .cells #[.int .i64 0, .int .i64 0, .slice none 0 0, .int .i64 0, .bool false, .bool false] 24 (0, 0)) (blk_off d.out P.out off2_) hb); replace u := Z (blk_below (g := m) (o := .cells #[.int .i64 F, .int .i64 G, .slice aD b.length ac, .int .i64 I, .bool J, .bool K] 24 (0, 0)) (put6 u.out) hb); replace HB := bs_ hb; clear hb; obtain ⟨bp, bq, br, bs, bt, bu, cv, cw, cx, cy, cz, cA⟩ := cells6 u.out; have p8 : 0 ≤ (a : Int) := od_; have q8 : (a : Int) < ((b.length : Int) : Int) := od_; obtain ⟨M, dU, aW, aX, dn, dT, aV⟩ := Kd.R_form i.out (by omega); (first | cases aW | (injection aW with ea_ en_ ec_; (first | subst ea_ | (injection ea_ with ea_; subst ea_)); subst ec_; clear en_)); have dm := Z aX; have dR := Z aV; clear aX dn aV; obtain ⟨dS, a4, aY, ad, ae⟩ := Kd.R_elem i.out z35 (a : Int) p8 q8; obtain rfl := k35_openM aY; have dH : T.cell? ⟨M, (a : Int).toNat * 6, none⟩ = some (.bool ((rd_T35 b a).f0)) := ad 0 _ rfl; have dI : T.cell? ⟨M, (a : Int).toNat * 6 + 1, none⟩ = some (.bool ((rd_T35 b a).f1.f0)) := ad 1 _ rfl; have dJ : T.cell? ⟨M, (a : Int).toNat * 6 + 2, none⟩ = some (.bool ((rd_T35 b a).f1.f1)) := ad 2 _ rfl; have dK : T.cell? ⟨M, (a : Int).toNat * 6 + 3, none⟩ = some (.int .i64 ((rd_T35 b a).f1.f2)) := ad 3 _ rfl; have dL : T.cell? ⟨M, (a : Int).toNat * 6 + 4, none⟩ = some (.bool ((rd_T35 b a).f1.f3)) := ad 4 _ rfl; have dM : T.cell? ⟨M, (a : Int).toNat * 6 + 5, none⟩ = some (.int .u8 ((rd_T35 b a).f2)) := ad 5 _ rfl; have dp : T.frozen? ⟨M, (a : Int).toNat * 6, none⟩ = false := ae 0; have dq : T.frozen? ⟨M, (a : Int).toNat * 6 + 1, none⟩ = false := ae 1; have dr : T.frozen? ⟨M, (a : Int).toNat * 6 + 2, none⟩ = false := ae 2; have ds : T.frozen? ⟨M, (a : Int).toNat * 6 + 3, none⟩ = false := ae 3; have dt : T.frozen? ⟨M, (a : Int).toNat * 6 + 4, none⟩ = false := ae 4; have du : T.frozen? ⟨M, (a : Int).toNat * 6 + 5, none⟩ = false := ae 5; clear a4 ad ae aY; replace p8 := eq_true p8; replace q8 := eq_true q8; have aF := Z (show Kd.R k35 35 T w.heap.size (fun _ => True) (.slice (some ⟨M, 0, none⟩) b.length ac) b from (by (with_reducible repeat apply pR); exact i.out)); obtain ⟨dP, au, aG, al, av⟩ := Kd.R_elem aF.out z35 (a : Int) (od_) (by have h_ : (a : Int) < ((b.length : Int) : Int) := od_; first | exact h_ | (have e_ := (Kd.R_reads' i.out).1; omega) | simpa using h_); obtain rfl := k35_openM aG; have aq := Kd.R_seg aF.out (a : Int) (od_) (by have h_ : (a : Int) < ((b.length : Int) : Int) := od_; first | exact h_ | (have e_ := (Kd.R_reads' i.out).1; omega) | simpa using h_) (seg := [.bool true]) (j := 4) au al (show 5 ≤ 6 from by decide) (x' := (⟨(rd_T35 b a).f0, (⟨(rd_T35 b a).f1.f0, (rd_T35 b a).f1.f1, (rd_T35 b a).f1.f2, true⟩ : S33), (rd_T35 b a).f2⟩ : S35)) (k35_mkM _ _ _ (⟨(rd_T35 b a).f0, (⟨(rd_T35 b a).f1.f0, (rd_T35 b a).f1.f1, (rd_T35 b a).f1.f2, true⟩ : S33), (rd_T35 b a).f2⟩ : S35) ) (fun _ hk => hk); have aJ := al 4 _ rfl; (try simp only [show (k35).sz = 6 from rfl, Nat.mul_one, Nat.add_zero] at aJ); have aI := av 4; (try simp only [show (k35).sz = 6 from rfl, Nat.mul_one, Nat.add_zero] at aI); clear au al av aG) | ((with_reducible refine gate_store (t := 4) (p := 19) rfl ?_); refine sx_ 4 19 (T.setCell ⟨M, (a : Int).toNat * 6 + 4, none⟩ (.bool true)) ?_; intro aK hw; have hg : T.grownBy aK (some M) := (by rw [hw]; exact aq.2); have hp_ : Kd.R k35 35 aK w.heap.size (fun _ => True) (.slice (some ⟨M, 0, none⟩) b.length ac) aL := (by rw [hw, aS.out]; exact aq.1); clear aq; replace c := Z (blk_grown (g := U) (o := .cells #[.int .i64 z, .int .i64 A, .slice Q y.length S, .int .i64 B, .bool D, .bool E] 24 (0, 0)) (vK c.out) hg (Kd.R_ne i.out c.out (by decide))); replace d := Z (blk_grown (g := l) (o := .cells #[.int .i64 0, .int .i64 0, .slice none 0 0, .int .i64 0, .bool false, .bool false] 24 (0, 0)) (vK d.out) hg (Kd.R_ne i.out d.out (by decide))); replace u := Z (blk_grown (g := m) (o := .cells #[.int .i64 F, .int .i64 G, .slice (some ⟨M, 0, none⟩) b.length ac, .int .i64 I, .bool J, .bool K] 24 (0, 0)) (vK u.out) hg (Kd.R_ne i.out u.out (by decide))); replace i := Z (hp_); replace HB := Z ((by rw [hw]; exact below_set (HB.out) dm.out : Below w.heap.size w aK)); clear hg hw hp_; obtain ⟨bv, bw, bx, bz, bA, bB, cB, cC, cD, cE, cF, cG⟩ := cells6 u.out; obtain ⟨bC, bD, bE, bF, bG, bH, cH, cI, cJ, cK, cL, cM⟩ := cells6 d.out))
    refine bodyPost_ret (results_cell_row rfl _ _ l 24 #[.int .i64 F, .int .i64 G, .slice (some ⟨M, 0, none⟩) b.length ac, .int .i64 I, .bool J, .bool K] (0, 0) _ rfl (put6 d.out) Tryd.underlying24 rfl (by kernel_rfl)) rfl ?_
    exact ⟨_, er_, by (with_reducible repeat apply pR); exact Kd.R_mono (f6R l (Kd.R_types i.out d.out (by decide)) (fun _ hk => hk.2)) (fun _ hk => trivial), bl_⟩
   ·rw [if_neg c7] at H
    exact absurd H (by simp)
  ·rw [if_neg c6] at H
   exact absurd H (by simp)
 ·rw [if_neg c5] at H
  have a0 : decide (0 ≤ a) = false := decide_eq_false c5
  clear c5
  simp only [Option.some.injEq, Prod.mk.injEq] at H
  obtain ⟨rfl, rfl, rfl, rfl, rfl, rfl⟩ := H
  go_enter Tryd.func37, Tryd.ntmps37
  go_wp2_with (first | ((with_reducible refine gate_dst (N := 2) rfl ?_); refine bx_ 2 24 #[.int .i64 z, .int .i64 A, .slice Q y.length S, .int .i64 B, .bool D, .bool E] ?_; intro U hg dY hbox hb; have c := Z (hbox); have aP := Z (ln_ hg : w.heap.size ≤ U); have aM := aP; replace HB := bs_ hb; clear hb hbox hg) | ((with_reducible refine gate_dst (N := 4) rfl ?_); refine bx_ 4 24 #[.int .i64 0, .int .i64 0, .slice none 0 0, .int .i64 0, .bool false, .bool false] ?_; intro l hg dZ hbox hb; have d := Z (hbox); have aQ := Z (ln_ hg : w.heap.size ≤ l); have aN := aQ; replace HB := bs_ hb; have V := nl' c hg; have W := ng' c hg; replace c := kb' c hb; clear hb hbox hg; have dy := V.out; have dE := W.out; obtain ⟨bI, bJ, bK, bL, bM, bN, cN, cO, cP, cQ, cR, cS⟩ := cells6 c.out) | ((with_reducible refine gate_callee (f := 23) rfl ?_); refine goesL_ (some 8) rfl rfl Tryd.func23 (by kernel_rfl) rfl #[.agg #[.int .i64 z, .int .i64 A, .slice Q y.length S, .int .i64 B, .bool D, .bool E]] rfl ag_ ?_; (with_reducible refine (shutterref10_Copy.calls z A _ _ y B D E F G b I J K _ ?side1 ?side2 A3.out).mono ?_); (case side1 => repeat (first | exact (Kd.C_below ah.out HB.out) | (with_reducible apply pC))); (case side2 => exact ag.out); rintro e d0 ⟨a6, rfl, am, hb⟩; refine ⟨_, rfl, ?_⟩; have i := Z (Kd.R_lower am (below_size bl_)); replace c := kb' c hb; replace d := kb' d hb; replace HB := bs_ hb; clear hb am) | ((with_reducible refine gate_dst (N := 5) rfl ?_); refine bx_ 5 24 #[.int .i64 0, .int .i64 0, .slice none 0 0, .int .i64 0, .bool false, .bool false] ?_; intro m hg d1 hbox hb; replace i := rb' i hb; have u := Z (hbox); have aR := Z (ln_ hg : w.heap.size ≤ m); have aO := aR; replace HB := bs_ hb; have O := nl' c hg; have X := ng' c hg; replace c := kb' c hb; have P := nl' d hg; have Y := ng' d hg; replace d := kb' d hb; clear hb hbox hg; have dz := X.out; have dF := O.out; have dA := Y.out; have dG := P.out; obtain ⟨bO, bP, bQ, bR, bS, bT, cT, cU, cV, cW, cX, cY⟩ := cells6 u.out; obtain ⟨aj, ak, a3⟩ := Kd.R_slice i.out; subst a3; obtain ⟨bU, bV, bW, bX, bY, bZ, cZ, c0, c1, c2, c3, c4⟩ := cells6 c.out) | ((with_reducible refine gate_callee (f := 21) rfl ?_); refine goesL_ (some 11) rfl rfl Tryd.func21 (by kernel_rfl) rfl #[.agg #[.int .i64 z, .int .i64 A, .slice Q y.length S, .int .i64 B, .bool D, .bool E], .int .i64 a1] rfl ag_ ?_; (with_reducible refine (shutterref11_Begin.calls k z A _ _ y B D E a1 a _ ?side1 ?side2 A4.out).mono ?_); (case side1 => exact Kd.C_below ah.out bl_); (case side2 => exact ag.out); rintro e d2 ⟨rfl, hb⟩; refine ⟨_, rfl, ?_⟩; replace i := Z (Kd.R_below (by (with_reducible repeat apply pR); exact (Kd.R_mono (f6R m (Kd.R_types i.out u.out (by decide)) (fun _ hk => hk.2)) (fun _ h_ => h_.1))) hb); replace c := Z (blk_below (g := U) (o := .cells #[.int .i64 z, .int .i64 A, .slice Q y.length S, .int .i64 B, .bool D, .bool E] 24 (0, 0)) (blk_off c.out O.out off2_) hb); replace d := Z (blk_below (g := l) (o := .cells #[.int .i64 0, .int .i64 0, .slice none 0 0, .int .i64 0, .bool false, .bool false] 24 (0, 0)) (blk_off d.out P.out off2_) hb); replace u := Z (blk_below (g := m) (o := .cells #[.int .i64 F, .int .i64 G, .slice aj b.length ak, .int .i64 I, .bool J, .bool K] 24 (0, 0)) (put6 u.out) hb); replace HB := bs_ hb; clear hb; obtain ⟨b0, b1, b2, b3, b4, b5, c8, c9, da, db, dc, dd⟩ := cells6 u.out; obtain ⟨b6, b7, b8, b9, ca, cb, de, df, dg, dh, di, dj⟩ := cells6 d.out))
  refine bodyPost_ret (results_cell_row rfl _ _ l 24 #[.int .i64 F, .int .i64 G, .slice aj b.length ak, .int .i64 I, .bool J, .bool K] (0, 0) _ rfl (put6 d.out) Tryd.underlying24 rfl (by kernel_rfl)) rfl ?_
  exact ⟨_, er_, by (with_reducible repeat apply pR); exact Kd.R_mono (f6R l (Kd.R_types i.out d.out (by decide)) (fun _ hk => hk.2)) (fun _ hk => trivial), bl_⟩
def shutterref14_Digit.f (a0 : Int) : Option (Bool) := if a0 ≥ 240 then (if a0 ≤ 249 then (some true) else (if a0 = 96 then (some true) else (some (a0 == 75)))) else (if a0 = 96 then (some true) else (some (a0 == 75)))
theorem shutterref14_Digit.calls (a0 : Int) (r : Bool) (w : World) (h : shutterref14_Digit.f a0 = some r) :
  Calls Tryd.prog 39 #[.int .u8 a0] w fun e w' => e = .returned (.bool r) ∧ Drawn0 w w' := by
 have H : (if a0 ≥ 240 then (if a0 ≤ 249 then (some true) else (if a0 = 96 then (some true) else (some (a0 == 75)))) else (if a0 = 96 then (some true) else (some (a0 == 75)))) = some r := h
 clear h
 by_cases c2 : a0 ≥ 240
 ·rw [if_pos c2] at H
  have a : decide (240 ≤ a0) = true := decide_eq_true c2
  clear c2
  by_cases c3 : a0 ≤ 249
  ·rw [if_pos c3] at H
   have b : decide (a0 ≤ 249) = true := decide_eq_true c3
   clear c3
   obtain rfl := Option.some.inj H
   go_enter Tryd.func39, Tryd.ntmps39
   go_wp2
   go_ret
   exact ⟨dn_, dr_⟩
  ·rw [if_neg c3] at H
   have b : decide (a0 ≤ 249) = false := decide_eq_false c3
   clear c3
   by_cases c4 : a0 = 96
   ·rw [if_pos c4] at H
    obtain ⟨c, d⟩ := eT_ c4
    clear c4
    obtain rfl := Option.some.inj H
    go_enter Tryd.func39, Tryd.ntmps39
    go_wp2
    go_ret
    exact ⟨dn_, dr_⟩
   ·rw [if_neg c4] at H
    obtain ⟨c, d⟩ := eF_ c4
    obtain rfl := Option.some.inj H
    go_enter Tryd.func39, Tryd.ntmps39
    go_wp2
    go_ret
    exact ⟨dn_, dr_⟩
 ·rw [if_neg c2] at H
  have a : decide (240 ≤ a0) = false := decide_eq_false c2
  clear c2
  by_cases c5 : a0 = 96
  ·rw [if_pos c5] at H
   obtain ⟨g, i⟩ := eT_ c5
   clear c5
   obtain rfl := Option.some.inj H
   go_enter Tryd.func39, Tryd.ntmps39
   go_wp2
   go_ret
   exact ⟨dn_, dr_⟩
  ·rw [if_neg c5] at H
   obtain ⟨g, i⟩ := eF_ c5
   obtain rfl := Option.some.inj H
   go_enter Tryd.func39, Tryd.ntmps39
   go_wp2
   go_ret
   exact ⟨dn_, dr_⟩
def shutterref14_Deny.f (b : Int) (c : Int) (h : List (S35)) (d : Int) (e : Bool) (g : Bool) : Option (Int × Int × (List (S35)) × Int × Bool × Bool) := (shutterref10_Copy.f b c h d e g).bind fun a => (some (a.1, a.2.1, a.2.2.1, a.2.2.2.1, true, a.2.2.2.2.2))
theorem shutterref14_Deny.calls (E : Int) (F : Int) (M : Option Addr) (O : Nat) (z : List (S35)) (G : Int) (I : Bool) (J : Bool) (r1 : Int) (r2 : Int) (r3 : List (S35)) (r4 : Int) (r5 : Bool) (r6 : Bool) (w : World) (aa : Kd.C k35 w M z.length z) (Y : z.length ≤ O) (h : shutterref14_Deny.f E F z G I J = some (r1, r2, r3, r4, r5, r6)) :
  Calls Tryd.prog 40 #[.agg #[.int .i64 E, .int .i64 F, .slice M z.length O, .int .i64 G, .bool I, .bool J]] w fun e w' => ∃ ap : Value, e = .returned (.agg #[.int .i64 r1, .int .i64 r2, ap, .int .i64 r4, .bool r5, .bool r6]) ∧ Kd.R k35 35 w' w.heap.size (fun _ => True) ap r3 ∧ Below w.heap.size w w' := by
 have bs := Tryd.underlying24
 have ad := Z aa
 have ac := Z Y
 clear aa Y
 have HB := Z (Below.refl w.heap.size w)
 have H : ((shutterref10_Copy.f E F z G I J).bind fun L => (some (L.1, L.2.1, L.2.2.1, L.2.2.2.1, true, L.2.2.2.2.2))) = some (r1, r2, r3, r4, r5, r6) := h
 clear h
 replace H := Option.bind_eq_some_iff.mp H
 obtain ⟨⟨k, m, i, y, S, A⟩, ak, H⟩ := H
 replace H : (some (k, m, i, y, true, A)) = some (r1, r2, r3, r4, r5, r6) := H
 have A2 := Z ak
 clear ak
 simp only [Option.some.injEq, Prod.mk.injEq] at H
 obtain ⟨rfl, rfl, rfl, rfl, rfl, rfl⟩ := H
 go_enter Tryd.func40, Tryd.ntmps40
 go_wp2_with (first | ((with_reducible refine gate_dst (N := 1) rfl ?_); refine bx_ 1 24 #[.int .i64 E, .int .i64 F, .slice M z.length O, .int .i64 G, .bool I, .bool J] ?_; intro P hg w3 hbox hb; have a := Z (hbox); have bi := Z (ln_ hg : w.heap.size ≤ P); have bf := bi; replace HB := bs_ hb; clear hb hbox hg) | ((with_reducible refine gate_dst (N := 2) rfl ?_); refine bx_ 2 24 #[.int .i64 0, .int .i64 0, .slice none 0 0, .int .i64 0, .bool false, .bool false] ?_; intro c hg w4 hbox hb; have b := Z (hbox); have bj := Z (ln_ hg : w.heap.size ≤ c); have bg := bj; replace HB := bs_ hb; have d := nl' a hg; have T := ng' a hg; replace a := kb' a hb; clear hb hbox hg; have bo := d.out; have bq := T.out; obtain ⟨a3, a4, a5, a6, a7, a8, a9, ba, bb, bc, bd, be⟩ := cells6 a.out) | ((with_reducible refine gate_callee (f := 23) rfl ?_); refine goesL_ (some 5) rfl rfl Tryd.func23 (by kernel_rfl) rfl #[.agg #[.int .i64 E, .int .i64 F, .slice M z.length O, .int .i64 G, .bool I, .bool J]] rfl ag_ ?_; (with_reducible refine (shutterref10_Copy.calls E F _ _ z G I J k m i y S A _ ?side1 ?side2 A2.out).mono ?_); (case side1 => repeat (first | exact (Kd.C_below ad.out HB.out) | (with_reducible apply pC))); (case side2 => exact ac.out); rintro e w7 ⟨bt, rfl, al, hb⟩; refine ⟨_, rfl, ?_⟩; have l := Z (Kd.R_lower al (below_size bl_)); replace a := kb' a hb; replace b := kb' b hb; replace HB := bs_ hb; clear hb al) | ((with_reducible refine gate_dst (N := 3) rfl ?_); refine bx_ 3 24 #[.int .i64 0, .int .i64 0, .slice none 0 0, .int .i64 0, .bool false, .bool false] ?_; intro j hg w8 hbox hb; replace l := rb' l hb; have q := Z (hbox); have bk := Z (ln_ hg : w.heap.size ≤ j); have bh := bk; replace HB := bs_ hb; have B := nl' a hg; have U := ng' a hg; replace a := kb' a hb; have D := nl' b hg; have g := ng' b hg; replace b := kb' b hb; clear hb hbox hg; have bp := U.out; have br := B.out; have bl := g.out; have bm := D.out; obtain ⟨ar, au, av, aw, ax, ay, aL, aM, aN, aO, aP, aQ⟩ := cells6 q.out; obtain ⟨n, o, aq⟩ := Kd.R_slice l.out; subst aq) | ((with_reducible refine gate_store (t := 24) (p := 3) rfl ?_); refine sx_ 24 3 ((((((w8.setCell ⟨j, 0, none⟩ (.int .i64 k)).setCell ⟨j, 1, none⟩ (.int .i64 m)).setCell ⟨j, 2, none⟩ (.slice n i.length o)).setCell ⟨j, 3, none⟩ (.int .i64 y)).setCell ⟨j, 4, none⟩ (.bool S)).setCell ⟨j, 5, none⟩ (.bool A)) ?_; intro Q hw; replace l : Aside0 (Kd.R k35 35 Q w.heap.size (fun _ => True) (.slice n i.length o) i) := ⟨(by rw [hw]; exact (by (with_reducible repeat apply pR); exact R_off l.out q.out (by decide) off2_))⟩; replace a := Z (sM hw (blk_off a.out B.out off2_)); replace b := Z (sM hw (blk_off b.out D.out off2_)); replace q : Aside0 (Q.heap[j]? = some (.cells #[.int .i64 k, .int .i64 m, .slice n i.length o, .int .i64 y, .bool S, .bool A] 24 (0, 0))) := ⟨by rw [hw]; exact (put6 q.out)⟩; replace HB : Aside0 (Below w.heap.size w Q) := ⟨by rw [hw]; exact bl_⟩; clear hw; obtain ⟨az, aA, aB, aC, aD, aE, aR, aS, aT, aU, aV, aW⟩ := cells6 q.out; obtain ⟨aF, aG, aH, aI, aJ, aK, aX, aY, aZ, a0, a1, a2⟩ := cells6 b.out) | ((with_reducible refine gate_store (t := 24) (p := 2) rfl ?_); refine sx_ 24 2 (((((((Q.setCell ⟨j, 4, none⟩ (.bool true)).setCell ⟨c, 0, none⟩ (.int .i64 k)).setCell ⟨c, 1, none⟩ (.int .i64 m)).setCell ⟨c, 2, none⟩ (.slice n i.length o)).setCell ⟨c, 3, none⟩ (.int .i64 y)).setCell ⟨c, 4, none⟩ (.bool true)).setCell ⟨c, 5, none⟩ (.bool A)) ?_; intro X hw; replace l : Aside0 (Kd.R k35 35 X w.heap.size (fun _ => True) (.slice n i.length o) i) := ⟨(by rw [hw]; exact (by (with_reducible repeat apply pR); exact Kd.R_mono (f6R c (Kd.R_far (p := ⟨j, 4, none⟩) (Kd.R_types (Kd.R_types l.out q.out (by decide)) b.out (by decide)) (fun _ hk => hk.1.2) (.bool true)) (fun _ hk => hk.2)) (fun _ hk => trivial)))⟩; replace a : Aside0 (X.heap[P]? = some (.cells #[.int .i64 E, .int .i64 F, .slice M z.length O, .int .i64 G, .bool I, .bool J] 24 (0, 0))) := ⟨(by rw [hw]; exact (by (with_reducible repeat apply pK); refine blk_far ?_ d.out _; (with_reducible repeat apply pK); refine blk_far ?_ d.out _; (with_reducible repeat apply pK); refine blk_far ?_ d.out _; (with_reducible repeat apply pK); refine blk_far ?_ d.out _; (with_reducible repeat apply pK); refine blk_far ?_ d.out _; (with_reducible repeat apply pK); refine blk_far ?_ d.out _; (with_reducible repeat apply pK); refine blk_far ?_ B.out _; (with_reducible repeat apply pK); exact a.out))⟩; replace b : Aside0 (X.heap[c]? = some (.cells #[.int .i64 k, .int .i64 m, .slice n i.length o, .int .i64 y, .bool true, .bool A] 24 (0, 0))) := ⟨(by rw [hw]; exact (by (with_reducible repeat apply pK); refine blk_put (cs := #[.int .i64 k, .int .i64 m, .slice n i.length o, .int .i64 y, .bool true, .bool false]) ?_ 5 _ rfl; (with_reducible repeat apply pK); refine blk_put (cs := #[.int .i64 k, .int .i64 m, .slice n i.length o, .int .i64 y, .bool false, .bool false]) ?_ 4 _ rfl; (with_reducible repeat apply pK); refine blk_put (cs := #[.int .i64 k, .int .i64 m, .slice n i.length o, .int .i64 0, .bool false, .bool false]) ?_ 3 _ rfl; (with_reducible repeat apply pK); refine blk_put (cs := #[.int .i64 k, .int .i64 m, .slice none 0 0, .int .i64 0, .bool false, .bool false]) ?_ 2 _ rfl; (with_reducible repeat apply pK); refine blk_put (cs := #[.int .i64 k, .int .i64 0, .slice none 0 0, .int .i64 0, .bool false, .bool false]) ?_ 1 _ rfl; (with_reducible repeat apply pK); refine blk_put (cs := #[.int .i64 0, .int .i64 0, .slice none 0 0, .int .i64 0, .bool false, .bool false]) ?_ 0 _ rfl; (with_reducible repeat apply pK); refine blk_far ?_ D.out _; (with_reducible repeat apply pK); exact b.out))⟩; replace q : Aside0 (X.heap[j]? = some (.cells #[.int .i64 k, .int .i64 m, .slice n i.length o, .int .i64 y, .bool true, .bool A] 24 (0, 0))) := ⟨(by rw [hw]; exact (by (with_reducible repeat apply pK); refine blk_far ?_ g.out _; (with_reducible repeat apply pK); refine blk_far ?_ g.out _; (with_reducible repeat apply pK); refine blk_far ?_ g.out _; (with_reducible repeat apply pK); refine blk_far ?_ g.out _; (with_reducible repeat apply pK); refine blk_far ?_ g.out _; (with_reducible repeat apply pK); refine blk_far ?_ g.out _; (with_reducible repeat apply pK); refine blk_put (cs := #[.int .i64 k, .int .i64 m, .slice n i.length o, .int .i64 y, .bool S, .bool A]) ?_ 4 _ rfl; (with_reducible repeat apply pK); exact q.out))⟩; replace HB : Aside0 (Below w.heap.size w X) := ⟨by rw [hw]; exact bl_⟩; clear hw))
 refine bodyPost_ret (results_cell_row rfl _ _ c 24 #[.int .i64 k, .int .i64 m, .slice n i.length o, .int .i64 y, .bool true, .bool A] (0, 0) _ rfl (vK b.out) Tryd.underlying24 rfl (by kernel_rfl)) rfl ?_
 exact ⟨_, er_, by (with_reducible repeat apply pR); exact l.out, bl_⟩
def shutterref09_Letter.f (a0 : Int) : Option (Bool) := if a0 = 0 then (some false) else ((shutterref05_Char.f a0).bind fun a => (some a))
theorem shutterref09_Letter.calls (a0 : Int) (r : Bool) (w : World) (h : shutterref09_Letter.f a0 = some r) :
  Calls Tryd.prog 58 #[.int .u8 a0] w fun e w' => e = .returned (.bool r) ∧ Drawn0 w w' := by
 have H : (if a0 = 0 then (some false) else ((shutterref05_Char.f a0).bind fun a => (some a))) = some r := h
 clear h
 by_cases c2 : a0 = 0
 ·rw [if_pos c2] at H
  obtain ⟨c, d⟩ := eT_ c2
  clear c2
  obtain rfl := Option.some.inj H
  go_enter Tryd.func58, Tryd.ntmps58
  go_wp2
  go_ret
  exact ⟨dn_, dr_⟩
 ·rw [if_neg c2] at H
  obtain ⟨c, d⟩ := eF_ c2
  replace H := Option.bind_eq_some_iff.mp H
  obtain ⟨a, b, H⟩ := H
  replace H : (some a) = some r := H
  have g := Z b
  clear b
  obtain rfl := Option.some.inj H
  go_enter Tryd.func58, Tryd.ntmps58
  go_wp2_with (first | (go_at_call 70; (with_reducible refine (shutterref05_Char.calls a0 a _ g.out).mono ?_); rintro e w' ⟨rfl, ⟨nd, rfl⟩⟩))
  go_ret
  exact ⟨dn_, dr_⟩
def shutterref10_Next.f (b : Int) (c : Int) (a : List (S35)) (d : Int) (e : Bool) (g : Bool) (a1 : Int) : Option (Int) := if (wrap64 (a1 + 1)) = (a.length : Int) then (some 0) else (some (wrap64 (a1 + 1)))
theorem shutterref10_Next.calls (g : Int) (i : Int) (c : Option Addr) (m : Nat) (a : List (S35)) (j : Int) (k : Bool) (l : Bool) (a1 : Int) (r : Int) (w : World) (u : Kd.C k35 w c a.length a) (s : a.length ≤ m) (h : shutterref10_Next.f g i a j k l a1 = some r) :
  Calls Tryd.prog 59 #[.agg #[.int .i64 g, .int .i64 i, .slice c a.length m, .int .i64 j, .bool k, .bool l], .int .i64 a1] w fun e w' => e = .returned (.int .i64 r) ∧ Below w.heap.size w w' := by
 have ae := Tryd.underlying24
 have ad := Z u
 have ac := Z s
 clear u s
 have HB := Z (Below.refl w.heap.size w)
 have H : (if (wrap64 (a1 + 1)) = (a.length : Int) then (some 0) else (some (wrap64 (a1 + 1)))) = some r := h
 clear h
 by_cases c3 : (wrap64 (a1 + 1)) = (a.length : Int)
 ·rw [if_pos c3] at H
  obtain ⟨y, z⟩ := eT_ c3
  clear c3
  obtain rfl := Option.some.inj H
  go_enter Tryd.func59, Tryd.ntmps59
  go_wp2_with (first | ((with_reducible refine gate_dst (N := 2) rfl ?_); refine bx_ 2 24 #[.int .i64 g, .int .i64 i, .slice c a.length m, .int .i64 j, .bool k, .bool l] ?_; intro b hg w4 hbox hb; have d := Z (hbox); have x := Z (ln_ hg : w.heap.size ≤ b); have v := x; replace HB := bs_ hb; clear hb hbox hg; obtain ⟨A, B, D, E, F, G, P, Q, R, S, T, U⟩ := cells6 d.out))
  go_ret
  exact ⟨er_, bl_⟩
 ·rw [if_neg c3] at H
  obtain ⟨y, z⟩ := eF_ c3
  obtain rfl := Option.some.inj H
  go_enter Tryd.func59, Tryd.ntmps59
  go_wp2_with (first | ((with_reducible refine gate_dst (N := 2) rfl ?_); refine bx_ 2 24 #[.int .i64 g, .int .i64 i, .slice c a.length m, .int .i64 j, .bool k, .bool l] ?_; intro b hg w6 hbox hb; have d := Z (hbox); have x := Z (ln_ hg : w.heap.size ≤ b); have v := x; replace HB := bs_ hb; clear hb hbox hg; obtain ⟨I, J, K, L, M, O, V, W, X, Y, aa, ab⟩ := cells6 d.out))
  go_ret
  exact ⟨er_, bl_⟩
def shutterref11_first.f (k : Nat) (c : Int) (d : Int) (a : List (S35)) (e : Int) (g : Bool) (h : Bool) (a1 : Int) : Option (Int) := (shutterref11_mod.f k (wrap64 (a1 + 1)) (a.length : Int)).bind fun b => (if 0 ≤ a1 then (if a1 < (a.length : Int) then (if (rd_T35 a a1).f0 = true then (if ((rd_T35 a a1).f1.f0 = true) then (some (-1)) else (if 0 ≤ b then (if b < (a.length : Int) then (if ((rd_T35 a b).f0 = true) then (some (-1)) else (some b)) else (none)) else (none))) else (some (-1))) else (none)) else (none))
theorem shutterref11_first.mono : ∀ a0 a1 a b a4 c d k, LeO (shutterref11_first.f k a0 a1 a b a4 c d) (shutterref11_first.f (k + 1) a0 a1 a b a4 c d) := by
 intro a0 a1 a b a4 c d k
 unfold shutterref11_first.f
 repeat' first
   | (with_reducible exact shutterref11_mod.mono _ _ _)
   | (with_reducible exact LeO.refl _)
   | (with_reducible exact LeO.none _)
   | (with_reducible refine LeO.ite ?_ ?_)
   | (with_reducible refine LeO.bind ?_ (fun _ => ?_))
   | exact shutterref11_mod.mono _ _ _
   | exact LeO.none _
   | refine LeO.ite ?_ ?_
   | refine LeO.bind ?_ (fun _ => ?_)
theorem shutterref11_first.calls (k : Nat) (Y : Int) (aa : Int) (X : Option Addr) (ae : Nat) (a : List (S35)) (ab : Int) (ac : Bool) (ad : Bool) (a1 : Int) (r : Int) (w : World) (ar : Kd.C k35 w X a.length a) (aq : a.length ≤ ae) (h : shutterref11_first.f k Y aa a ab ac ad a1 = some r) :
  Calls Tryd.prog 81 #[.agg #[.int .i64 Y, .int .i64 aa, .slice X a.length ae, .int .i64 ab, .bool ac, .bool ad], .int .i64 a1] w fun e w' => e = .returned (.int .i64 r) ∧ Below w.heap.size w w' := by
 have br := Tryd.underlying24
 have J := Z ar
 have bm := Z aq
 clear ar aq
 have HB := Z (Below.refl w.heap.size w)
 have H : ((shutterref11_mod.f k (wrap64 (a1 + 1)) (a.length : Int)).bind fun i => (if 0 ≤ a1 then (if a1 < (a.length : Int) then (if (rd_T35 a a1).f0 = true then (if ((rd_T35 a a1).f1.f0 = true) then (some (-1)) else (if 0 ≤ i then (if i < (a.length : Int) then (if ((rd_T35 a i).f0 = true) then (some (-1)) else (some i)) else (none)) else (none))) else (some (-1))) else (none)) else (none))) = some r := h
 clear h
 replace H := Option.bind_eq_some_iff.mp H
 obtain ⟨i, aw, H⟩ := H
 replace H : (if 0 ≤ a1 then (if a1 < (a.length : Int) then (if (rd_T35 a a1).f0 = true then (if ((rd_T35 a a1).f1.f0 = true) then (some (-1)) else (if 0 ≤ i then (if i < (a.length : Int) then (if ((rd_T35 a i).f0 = true) then (some (-1)) else (some i)) else (none)) else (none))) else (some (-1))) else (none)) else (none)) = some r := H
 have A3 := Z aw
 clear aw
 by_cases c4 : 0 ≤ a1
 ·rw [if_pos c4] at H
  have bp : decide (0 ≤ a1) = true := decide_eq_true c4
  clear c4
  by_cases c5 : a1 < (a.length : Int)
  ·rw [if_pos c5] at H
   have bq : decide (a1 < (a.length : Int)) = true := decide_eq_true c5
   clear c5
   obtain ⟨ax, al⟩ : ∃ b_ : Bool, b_ = ((rd_T35 a a1).f0) := ⟨_, rfl⟩
   replace H : (if ax = true then (if ((rd_T35 a a1).f1.f0 = true) then (some (-1)) else (if 0 ≤ i then (if i < (a.length : Int) then (if ((rd_T35 a i).f0 = true) then (some (-1)) else (some i)) else (none)) else (none))) else (some (-1))) = some r := by rw [← al] at H; exact H
   have j := Z al
   clear al
   by_cases c7 : ax = true
   ·subst c7
    have H1 : (if ((rd_T35 a a1).f1.f0 = true) then (some (-1)) else (if 0 ≤ i then (if i < (a.length : Int) then (if ((rd_T35 a i).f0 = true) then (some (-1)) else (some i)) else (none)) else (none))) = some r := by rw [if_pos rfl] at H; exact H
    clear H
    have H := H1
    clear H1
    obtain ⟨ay, am⟩ : ∃ b_ : Bool, b_ = ((rd_T35 a a1).f1.f0) := ⟨_, rfl⟩
    replace H : (if (ay = true) then (some (-1)) else (if 0 ≤ i then (if i < (a.length : Int) then (if ((rd_T35 a i).f0 = true) then (some (-1)) else (some i)) else (none)) else (none))) = some r := by rw [← am] at H; exact H
    have p := Z am
    clear am
    by_cases c9 : (ay = true)
    ·subst c9
     have H1 : (some (-1)) = some r := by rw [if_pos rfl] at H; exact H
     clear H
     have H := H1
     clear H1
     obtain rfl := Option.some.inj H
     go_enter Tryd.func81, Tryd.ntmps81
     go_wp2_with (first | ((with_reducible refine gate_dst (N := 2) rfl ?_); refine bx_ 2 24 #[.int .i64 Y, .int .i64 aa, .slice X a.length ae, .int .i64 ab, .bool ac, .bool ad] ?_; intro F hg bs hbox hb; have O := Z (hbox); have ah := Z (ln_ hg : w.heap.size ≤ F); have ag := ah; replace HB := bs_ hb; clear hb hbox hg; obtain ⟨az, aA, aB, aC, aD, aE, aX, aY, aZ, a0, a2, a3⟩ := cells6 O.out) | ((with_reducible refine gate_callee (f := 47) rfl ?_); refine goesL_ (some 11) rfl rfl Tryd.func47 (by kernel_rfl) rfl #[.int .i64 (wrap64 (a1 + 1)), .int .i64 (a.length : Int)] rfl ag_ ?_; (with_reducible refine (shutterref11_mod.calls k (wrap64 (a1 + 1)) (a.length : Int) i _ A3.out).mono ?_); rintro e w' ⟨rfl, ⟨nd, rfl⟩⟩; refine ⟨_, rfl, ?_⟩; have D : 0 ≤ (a1 : Int) := od_; have E : a1 < (a.length : Int) := od_; obtain ⟨M, T, b, c, d, s, g, u⟩ := at_T35 J.out a1 D E; (try rw [← j.out] at b); (try rw [← p.out] at b); (try rw [← j.out] at c); (try rw [← p.out] at c); (try rw [← j.out] at d); (try rw [← p.out] at d); (try rw [← j.out] at g); (try rw [← p.out] at g); cases T; replace b := (HB.out.cell (bk_ w _ b)).trans b; replace c := (HB.out.cell (bk_ w _ c)).trans c; replace d := (HB.out.cell (bk_ w _ d)).trans d; replace s := (HB.out.cell (bk_ w _ s)).trans s; replace g := (HB.out.cell (bk_ w _ g)).trans g; replace u := (HB.out.cell (bk_ w _ u)).trans u; replace D := eq_true D; replace E := eq_true E; have K : 0 ≤ (a1 : Int) := od_; have L : a1 < (a.length : Int) := od_; obtain ⟨W, af, l, m, n, A, o, B⟩ := at_T35 J.out a1 K L; (try rw [← j.out] at l); (try rw [← p.out] at l); (try rw [← j.out] at m); (try rw [← p.out] at m); (try rw [← j.out] at n); (try rw [← p.out] at n); (try rw [← j.out] at o); (try rw [← p.out] at o); obtain rfl : M = W := (by injection af); replace l := (HB.out.cell (bk_ w _ l)).trans l; replace m := (HB.out.cell (bk_ w _ m)).trans m; replace n := (HB.out.cell (bk_ w _ n)).trans n; replace A := (HB.out.cell (bk_ w _ A)).trans A; replace o := (HB.out.cell (bk_ w _ o)).trans o; replace B := (HB.out.cell (bk_ w _ B)).trans B; replace K := eq_true K; replace L := eq_true L))
     go_ret
     exact ⟨er_, bl_⟩
    ·replace c9 := Bool.eq_false_iff.mpr c9
     subst c9
     have H1 : (if 0 ≤ i then (if i < (a.length : Int) then (if ((rd_T35 a i).f0 = true) then (some (-1)) else (some i)) else (none)) else (none)) = some r := by rw [if_neg (show ¬ (false = true) by decide)] at H; exact H
     clear H
     have H := H1
     clear H1
     by_cases an : 0 ≤ i
     ·rw [if_pos an] at H
      have bn : decide (0 ≤ i) = true := decide_eq_true an
      clear an
      by_cases ao : i < (a.length : Int)
      ·rw [if_pos ao] at H
       have bo : decide (i < (a.length : Int)) = true := decide_eq_true ao
       clear ao
       obtain ⟨au, aj⟩ : ∃ b_ : Bool, b_ = ((rd_T35 a i).f0) := ⟨_, rfl⟩
       replace H : (if (au = true) then (some (-1)) else (some i)) = some r := by rw [← aj] at H; exact H
       have q := Z aj
       clear aj
       by_cases ap : (au = true)
       ·subst ap
        have H1 : (some (-1)) = some r := by rw [if_pos rfl] at H; exact H
        clear H
        have H := H1
        clear H1
        obtain rfl := Option.some.inj H
        go_enter Tryd.func81, Tryd.ntmps81
        go_wp2_with (first | ((with_reducible refine gate_dst (N := 2) rfl ?_); refine bx_ 2 24 #[.int .i64 Y, .int .i64 aa, .slice X a.length ae, .int .i64 ab, .bool ac, .bool ad] ?_; intro F hg bt hbox hb; have O := Z (hbox); have ah := Z (ln_ hg : w.heap.size ≤ F); have ag := ah; replace HB := bs_ hb; clear hb hbox hg; obtain ⟨aF, aG, aH, aI, aJ, aK, a4, a5, a6, a7, a8, a9⟩ := cells6 O.out) | ((with_reducible refine gate_callee (f := 47) rfl ?_); refine goesL_ (some 11) rfl rfl Tryd.func47 (by kernel_rfl) rfl #[.int .i64 (wrap64 (a1 + 1)), .int .i64 (a.length : Int)] rfl ag_ ?_; (with_reducible refine (shutterref11_mod.calls k (wrap64 (a1 + 1)) (a.length : Int) i _ A3.out).mono ?_); rintro e w' ⟨rfl, ⟨nd, rfl⟩⟩; refine ⟨_, rfl, ?_⟩; have D : 0 ≤ (a1 : Int) := od_; have E : a1 < (a.length : Int) := od_; obtain ⟨M, T, b, c, d, s, g, u⟩ := at_T35 J.out a1 D E; (try rw [← j.out] at b); (try rw [← p.out] at b); (try rw [← q.out] at b); (try rw [← j.out] at c); (try rw [← p.out] at c); (try rw [← q.out] at c); (try rw [← j.out] at d); (try rw [← p.out] at d); (try rw [← q.out] at d); (try rw [← j.out] at g); (try rw [← p.out] at g); (try rw [← q.out] at g); cases T; replace b := (HB.out.cell (bk_ w _ b)).trans b; replace c := (HB.out.cell (bk_ w _ c)).trans c; replace d := (HB.out.cell (bk_ w _ d)).trans d; replace s := (HB.out.cell (bk_ w _ s)).trans s; replace g := (HB.out.cell (bk_ w _ g)).trans g; replace u := (HB.out.cell (bk_ w _ u)).trans u; replace D := eq_true D; replace E := eq_true E; have K : 0 ≤ (a1 : Int) := od_; have L : a1 < (a.length : Int) := od_; obtain ⟨W, af, l, m, n, A, o, B⟩ := at_T35 J.out a1 K L; (try rw [← j.out] at l); (try rw [← p.out] at l); (try rw [← q.out] at l); (try rw [← j.out] at m); (try rw [← p.out] at m); (try rw [← q.out] at m); (try rw [← j.out] at n); (try rw [← p.out] at n); (try rw [← q.out] at n); (try rw [← j.out] at o); (try rw [← p.out] at o); (try rw [← q.out] at o); obtain rfl : M = W := (by injection af); replace l := (HB.out.cell (bk_ w _ l)).trans l; replace m := (HB.out.cell (bk_ w _ m)).trans m; replace n := (HB.out.cell (bk_ w _ n)).trans n; replace A := (HB.out.cell (bk_ w _ A)).trans A; replace o := (HB.out.cell (bk_ w _ o)).trans o; replace B := (HB.out.cell (bk_ w _ B)).trans B; replace K := eq_true K; replace L := eq_true L; have U : 0 ≤ (i : Int) := od_; have V : i < (a.length : Int) := od_; obtain ⟨ai, ak, v, x, y, G, z, I⟩ := at_T35 J.out i U V; (try rw [← j.out] at v); (try rw [← p.out] at v); (try rw [← q.out] at v); (try rw [← j.out] at x); (try rw [← p.out] at x); (try rw [← q.out] at x); (try rw [← j.out] at y); (try rw [← p.out] at y); (try rw [← q.out] at y); (try rw [← j.out] at z); (try rw [← p.out] at z); (try rw [← q.out] at z); obtain rfl : M = ai := (by injection ak); replace v := (HB.out.cell (bk_ w _ v)).trans v; replace x := (HB.out.cell (bk_ w _ x)).trans x; replace y := (HB.out.cell (bk_ w _ y)).trans y; replace G := (HB.out.cell (bk_ w _ G)).trans G; replace z := (HB.out.cell (bk_ w _ z)).trans z; replace I := (HB.out.cell (bk_ w _ I)).trans I; replace U := eq_true U; replace V := eq_true V))
        go_ret
        exact ⟨er_, bl_⟩
       ·replace ap := Bool.eq_false_iff.mpr ap
        subst ap
        have H1 : (some i) = some r := by rw [if_neg (show ¬ (false = true) by decide)] at H; exact H
        clear H
        have H := H1
        clear H1
        obtain rfl := Option.some.inj H
        go_enter Tryd.func81, Tryd.ntmps81
        go_wp2_with (first | ((with_reducible refine gate_dst (N := 2) rfl ?_); refine bx_ 2 24 #[.int .i64 Y, .int .i64 aa, .slice X a.length ae, .int .i64 ab, .bool ac, .bool ad] ?_; intro F hg bu hbox hb; have O := Z (hbox); have ah := Z (ln_ hg : w.heap.size ≤ F); have ag := ah; replace HB := bs_ hb; clear hb hbox hg; obtain ⟨aL, aM, aN, aO, aP, aQ, ba, bb, bc, bd, be, bf⟩ := cells6 O.out) | ((with_reducible refine gate_callee (f := 47) rfl ?_); refine goesL_ (some 11) rfl rfl Tryd.func47 (by kernel_rfl) rfl #[.int .i64 (wrap64 (a1 + 1)), .int .i64 (a.length : Int)] rfl ag_ ?_; (with_reducible refine (shutterref11_mod.calls k (wrap64 (a1 + 1)) (a.length : Int) i _ A3.out).mono ?_); rintro e w' ⟨rfl, ⟨nd, rfl⟩⟩; refine ⟨_, rfl, ?_⟩; have D : 0 ≤ (a1 : Int) := od_; have E : a1 < (a.length : Int) := od_; obtain ⟨M, T, b, c, d, s, g, u⟩ := at_T35 J.out a1 D E; (try rw [← j.out] at b); (try rw [← p.out] at b); (try rw [← q.out] at b); (try rw [← j.out] at c); (try rw [← p.out] at c); (try rw [← q.out] at c); (try rw [← j.out] at d); (try rw [← p.out] at d); (try rw [← q.out] at d); (try rw [← j.out] at g); (try rw [← p.out] at g); (try rw [← q.out] at g); cases T; replace b := (HB.out.cell (bk_ w _ b)).trans b; replace c := (HB.out.cell (bk_ w _ c)).trans c; replace d := (HB.out.cell (bk_ w _ d)).trans d; replace s := (HB.out.cell (bk_ w _ s)).trans s; replace g := (HB.out.cell (bk_ w _ g)).trans g; replace u := (HB.out.cell (bk_ w _ u)).trans u; replace D := eq_true D; replace E := eq_true E; have K : 0 ≤ (a1 : Int) := od_; have L : a1 < (a.length : Int) := od_; obtain ⟨W, af, l, m, n, A, o, B⟩ := at_T35 J.out a1 K L; (try rw [← j.out] at l); (try rw [← p.out] at l); (try rw [← q.out] at l); (try rw [← j.out] at m); (try rw [← p.out] at m); (try rw [← q.out] at m); (try rw [← j.out] at n); (try rw [← p.out] at n); (try rw [← q.out] at n); (try rw [← j.out] at o); (try rw [← p.out] at o); (try rw [← q.out] at o); obtain rfl : M = W := (by injection af); replace l := (HB.out.cell (bk_ w _ l)).trans l; replace m := (HB.out.cell (bk_ w _ m)).trans m; replace n := (HB.out.cell (bk_ w _ n)).trans n; replace A := (HB.out.cell (bk_ w _ A)).trans A; replace o := (HB.out.cell (bk_ w _ o)).trans o; replace B := (HB.out.cell (bk_ w _ B)).trans B; replace K := eq_true K; replace L := eq_true L; have U : 0 ≤ (i : Int) := od_; have V : i < (a.length : Int) := od_; obtain ⟨ai, ak, v, x, y, G, z, I⟩ := at_T35 J.out i U V; (try rw [← j.out] at v); (try rw [← p.out] at v); (try rw [← q.out] at v); (try rw [← j.out] at x); (try rw [← p.out] at x); (try rw [← q.out] at x); (try rw [← j.out] at y); (try rw [← p.out] at y); (try rw [← q.out] at y); (try rw [← j.out] at z); (try rw [← p.out] at z); (try rw [← q.out] at z); obtain rfl : M = ai := (by injection ak); replace v := (HB.out.cell (bk_ w _ v)).trans v; replace x := (HB.out.cell (bk_ w _ x)).trans x; replace y := (HB.out.cell (bk_ w _ y)).trans y; replace G := (HB.out.cell (bk_ w _ G)).trans G; replace z := (HB.out.cell (bk_ w _ z)).trans z; replace I := (HB.out.cell (bk_ w _ I)).trans I; replace U := eq_true U; replace V := eq_true V))
        go_ret
        exact ⟨er_, bl_⟩
      ·rw [if_neg ao] at H
       exact absurd H (by simp)
     ·rw [if_neg an] at H
      exact absurd H (by simp)
   ·replace c7 := Bool.eq_false_iff.mpr c7
    subst c7
    have H1 : (some (-1)) = some r := by rw [if_neg (show ¬ (false = true) by decide)] at H; exact H
    clear H
    have H := H1
    clear H1
    obtain rfl := Option.some.inj H
    go_enter Tryd.func81, Tryd.ntmps81
    go_wp2_with (first | ((with_reducible refine gate_dst (N := 2) rfl ?_); refine bx_ 2 24 #[.int .i64 Y, .int .i64 aa, .slice X a.length ae, .int .i64 ab, .bool ac, .bool ad] ?_; intro F hg bv hbox hb; have O := Z (hbox); have ah := Z (ln_ hg : w.heap.size ≤ F); have ag := ah; replace HB := bs_ hb; clear hb hbox hg; obtain ⟨aR, aS, aT, aU, aV, aW, bg, bh, bi, bj, bk, bl⟩ := cells6 O.out) | ((with_reducible refine gate_callee (f := 47) rfl ?_); refine goesL_ (some 11) rfl rfl Tryd.func47 (by kernel_rfl) rfl #[.int .i64 (wrap64 (a1 + 1)), .int .i64 (a.length : Int)] rfl ag_ ?_; (with_reducible refine (shutterref11_mod.calls k (wrap64 (a1 + 1)) (a.length : Int) i _ A3.out).mono ?_); rintro e w' ⟨rfl, ⟨nd, rfl⟩⟩; refine ⟨_, rfl, ?_⟩; have D : 0 ≤ (a1 : Int) := od_; have E : a1 < (a.length : Int) := od_; obtain ⟨M, T, b, c, d, s, g, u⟩ := at_T35 J.out a1 D E; (try rw [← j.out] at b); (try rw [← j.out] at c); (try rw [← j.out] at d); (try rw [← j.out] at g); cases T; replace b := (HB.out.cell (bk_ w _ b)).trans b; replace c := (HB.out.cell (bk_ w _ c)).trans c; replace d := (HB.out.cell (bk_ w _ d)).trans d; replace s := (HB.out.cell (bk_ w _ s)).trans s; replace g := (HB.out.cell (bk_ w _ g)).trans g; replace u := (HB.out.cell (bk_ w _ u)).trans u; replace D := eq_true D; replace E := eq_true E))
    go_ret
    exact ⟨er_, bl_⟩
  ·rw [if_neg c5] at H
   exact absurd H (by simp)
 ·rw [if_neg c4] at H
  exact absurd H (by simp)
def shutterref11_Next.l0 : Nat → Int → Int → Int → Int → List (S35) → Int → Bool → Bool → Option (Int)
 | 0, _, _, _, _, _, _, _, _ => none
 | k + 1, l, j, b, c, a, d, e, g => if j ≤ (a.length : Int) then ((shutterref11_mod.f k (wrap64 (l + j)) (a.length : Int)).bind fun i => ((shutterref11_first.f k b c a d e g i).bind fun h => (if h ≥ 0 then (some h) else (shutterref11_Next.l0 k l (wrap64 (j + 1)) b c a d e g)))) else (some (-1))
def shutterref11_Next.f (k : Nat) (a : Int) (b : Int) (g : List (S35)) (c : Int) (d : Bool) (e : Bool) (a1 : Int) : Option (Int) := shutterref11_Next.l0 k a1 1 a b g c d e
theorem shutterref11_Next.mono_l : ∀ k, (∀ b c d e f g i j, LeO (shutterref11_Next.l0 k b c d e f g i j) (shutterref11_Next.l0 (k + 1) b c d e f g i j))
 | 0 => fun _ _ _ _ _ _ _ _ r h => by simp [shutterref11_Next.l0] at h
 | k + 1 => by
  have a := shutterref11_Next.mono_l k
  ·intro b c d e f g i j
   unfold shutterref11_Next.l0
   repeat' first
   | (with_reducible exact a _ _ _ _ _ _ _ _)
   | (with_reducible exact shutterref11_first.mono _ _ _ _ _ _ _ _)
   | (with_reducible exact shutterref11_mod.mono _ _ _)
   | (with_reducible exact LeO.refl _)
   | (with_reducible exact LeO.none _)
   | (with_reducible refine LeO.ite ?_ ?_)
   | (with_reducible refine LeO.bind ?_ (fun _ => ?_))
   | exact a _ _ _ _ _ _ _ _
   | exact shutterref11_first.mono _ _ _ _ _ _ _ _
   | exact shutterref11_mod.mono _ _ _
   | exact LeO.none _
   | refine LeO.ite ?_ ?_
   | refine LeO.bind ?_ (fun _ => ?_)
theorem shutterref11_Next.mono : ∀ a0 a1 b c a4 d e k, LeO (shutterref11_Next.f k a0 a1 b c a4 d e) (shutterref11_Next.f (k + 1) a0 a1 b c a4 d e) := by
 intro a0 a1 b c a4 d e k
 have a := shutterref11_Next.mono_l k
 unfold shutterref11_Next.f
 repeat' first
   | (with_reducible exact a _ _ _ _ _ _ _ _)
   | (with_reducible exact shutterref11_first.mono _ _ _ _ _ _ _ _)
   | (with_reducible exact shutterref11_mod.mono _ _ _)
   | (with_reducible exact LeO.refl _)
   | (with_reducible exact LeO.none _)
   | (with_reducible refine LeO.ite ?_ ?_)
   | (with_reducible refine LeO.bind ?_ (fun _ => ?_))
   | exact a _ _ _ _ _ _ _ _
   | exact shutterref11_first.mono _ _ _ _ _ _ _ _
   | exact shutterref11_mod.mono _ _ _
   | exact LeO.none _
   | refine LeO.ite ?_ ?_
   | refine LeO.bind ?_ (fun _ => ?_)
def shutterref11_Next.T4 : Bool × List (List Nat × List Nat) := (true, [([], []), ([], []), ([], []), ([1, 2], [1, 2]), ([], []), ([4], [4]), ([5], [5]), ([3, 6], [3, 6]), ([0, 7, 7], [0, 7]), ([8, 8, 0, 1, 2, 3, 4, 5, 6, 7, 8], [8])])
def shutterref11_Next.B4 : List Nat := [0, 0, 0, 6, 0, 16, 48, 126, 255, 511]
theorem shutterref11_Next.tab4 : rtab .any (opsOf Tryd.f60 4) = shutterref11_Next.T4 := by kernel_rfl
theorem shutterref11_Next.bits4 : waitsOk shutterref11_Next.T4.2 shutterref11_Next.B4 = true := by kernel_rfl
theorem shutterref11_Next.calls (k : Nat) (d : Int) (g : Int) (u : Option Addr) (x : Nat) (b : List (S35)) (j : Int) (l : Bool) (m : Bool) (a1 : Int) (r : Int) (w : World) (D : Kd.C k35 w u b.length b) (B : b.length ≤ x) (h : shutterref11_Next.f k d g b j l m a1 = some r) :
  Calls Tryd.prog 60 #[.agg #[.int .i64 d, .int .i64 g, .slice u b.length x, .int .i64 j, .bool l, .bool m], .int .i64 a1] w fun e w' => e = .returned (.int .i64 r) ∧ Below w.heap.size w w' := by
 have aN := Tryd.underlying24
 have A := Z D
 have z := Z B
 clear D B
 have HB := Z (Below.refl w.heap.size w)
 have H : (shutterref11_Next.l0 k a1 1 d g b j l m) = some r := h
 clear h
 have H' := Z H
 clear H
 go_enter Tryd.func60, Tryd.ntmps60
 go_wp2_with (first | ((with_reducible refine gate_dst (N := 2) rfl ?_); refine bx_ 2 24 #[.int .i64 d, .int .i64 g, .slice u b.length x, .int .i64 j, .bool l, .bool m] ?_; intro c hg w3 hbox hb; have a := Z (hbox); have aM := Z (ln_ hg : w.heap.size ≤ c); have aL := aM; replace HB := bs_ hb; clear hb hbox hg))
 go_loopg [5] k (fun kq v5 w' => ∃ (o : Int), v5 = .int .i64 o ∧ Aside0 (shutterref11_Next.l0 kq a1 o d g b j l m = some r) ∧ Aside0 (kq ≤ k) ∧ Aside0 (w'.heap[c]? = some (.cells #[.int .i64 d, .int .i64 g, (.slice u b.length x), .int .i64 j, .bool l, .bool m] 24 (0, 0))) ∧ Aside0 (Below w.heap.size w w'))
 case atStart => exact ⟨(1), (dn_), H', ⟨Nat.le_refl _⟩, ⟨vK a.out⟩, ⟨bl_⟩⟩
 case round =>
  clear H'
  obtain ⟨o, rfl, HA, G, a, HB⟩ := hrel
  cases gk with
  | zero => exact absurd HA.out (by simp [shutterref11_Next.l0])
  | succ k1 =>
   have H := HA.out
   clear HA
   simp only [shutterref11_Next.l0] at H
   by_cases c4 : o ≤ (b.length : Int)
   ·rw [if_pos c4] at H
    have L : decide (o ≤ (b.length : Int)) = true := decide_eq_true c4
    clear c4
    replace H := Option.bind_eq_some_iff.mp H
    obtain ⟨y, E, H⟩ := H
    replace H : ((shutterref11_first.f k1 d g b j l m y).bind fun s => (if s ≥ 0 then (some s) else (shutterref11_Next.l0 k1 a1 (wrap64 (o + 1)) d g b j l m))) = some r := H
    have A5 := Z E
    clear E
    replace H := Option.bind_eq_some_iff.mp H
    obtain ⟨s, F, H⟩ := H
    replace H : (if s ≥ 0 then (some s) else (shutterref11_Next.l0 k1 a1 (wrap64 (o + 1)) d g b j l m)) = some r := H
    have A6 := Z F
    clear F
    by_cases c7 : s ≥ 0
    ·rw [if_pos c7] at H
     have M : decide (0 ≤ s) = true := decide_eq_true c7
     clear c7
     obtain rfl := Option.some.inj H
     obtain ⟨az, aA, aB, aC, aD, aE, aF, aG, aH, aI, aJ, aK⟩ := cells6 a.out
     try go_wp2
     replace a := Z (blk_drew a.out)
     replace HB := Z (below_drew1 HB.out)
     refine start_ (n := 10) (S := fun w' => w'.cell? ⟨c, 0, none⟩ = some (.int .i64 d) ∧ w'.cell? ⟨c, 1, none⟩ = some (.int .i64 g) ∧ w'.cell? ⟨c, 2, none⟩ = some (.slice u b.length x) ∧ w'.cell? ⟨c, 3, none⟩ = some (.int .i64 j) ∧ w'.cell? ⟨c, 4, none⟩ = some (.bool l) ∧ w'.cell? ⟨c, 5, none⟩ = some (.bool m)) (ds := []) (bv 10 0) (by kernel_rfl) rfl rfl ⟨(blk_cell a.out 0).trans rfl, (blk_cell a.out 1).trans rfl, (blk_cell a.out 2).trans rfl, (blk_cell a.out 3).trans rfl, (blk_cell a.out 4).trans rfl, (blk_cell a.out 5).trans rfl⟩ (fun hHeld => ?_); refine with_tabW shutterref11_Next.tab4 shutterref11_Next.bits4 (fun HT_ HW_ => ?_)
     generalize wr.drew = w9 at a HB hHeld ⊢
     refine pT_ HT_ 1 10 2 (some 15) ?_
     refine pT_ HT_ 2 10 6 (some 16) ?_
     refine pT_ HT_ 3 10 14 (some 17) ?_
     refine pT_ HT_ 4 10 30 (some 18) ?_
     refine tT_ HT_ HW_ hHeld 0 10 31 (some 14) ?_
     refine tT_ HT_ HW_ hHeld 5 10 63 (some 19) ?_
     refine pT_ HT_ 6 10 127 (some 20) ?_
     refine oT_ HT_ 7 10 255 (some 21) (fun K hK => ?_)
     refine goes_ Tryd.func47 (by kernel_rfl) rfl #[.int .i64 (wrap64 (a1 + o)), .int .i64 (b.length : Int)] (by rfl) rfl rfl ag_ ?_
     with_reducible refine (shutterref11_mod.calls k1 (wrap64 (a1 + o)) (b.length : Int) y _ A5.out).mono ?_
     rintro e w' ⟨rfl, ⟨nd, rfl⟩⟩
     refine ⟨_, rfl, ?_⟩
     refine hK.out _ _ ⟨(blk_cell a.out 0).trans rfl, (blk_cell a.out 1).trans rfl, (blk_cell a.out 2).trans rfl, (blk_cell a.out 3).trans rfl, (blk_cell a.out 4).trans rfl, (blk_cell a.out 5).trans rfl⟩ (fun hHeld => ?_)
     clear hK K
     refine nA_ (some 21) ?_
     refine oT_ HT_ 8 10 511 (some 22) (fun K hK => ?_)
     refine goes_ Tryd.func81 (by kernel_rfl) rfl #[.agg #[.int .i64 d, .int .i64 g, .slice u b.length x, .int .i64 j, .bool l, .bool m], .int .i64 y] (by rfl) rfl rfl ag_ ?_
     with_reducible refine (shutterref11_first.calls k1 d g _ _ b j l m y s _ ?side1 ?side2 A6.out).mono ?_
     (case side1 => repeat (first | exact (Kd.C_below A.out bl_) | (with_reducible apply pC)))
     (case side2 => exact z.out)
     rintro e aP ⟨rfl, hb⟩
     refine ⟨_, rfl, ?_⟩
     replace a := kb' a hb
     replace HB := bs_ hb
     clear hb
     refine hK.out _ _ ⟨(blk_cell a.out 0).trans rfl, (blk_cell a.out 1).trans rfl, (blk_cell a.out 2).trans rfl, (blk_cell a.out 3).trans rfl, (blk_cell a.out 4).trans rfl, (blk_cell a.out 5).trans rfl⟩ (fun hHeld => ?_)
     clear hK K
     refine nA_ (some 22) ?_
     refine pT_ HT_ 9 10 1023 (some 6) ?_
     refine done_ (done_of HT_.out (by kernel_rfl)) ?_
     try go_wp2
     go_ret
     exact ⟨er_, bl_⟩
    ·rw [if_neg c7] at H
     have M : decide (0 ≤ s) = false := decide_eq_false c7
     clear c7
     have H' := Z H
     clear H
     obtain ⟨V, W, X, Y, aa, ab, ai, aj, ak, al, am, an⟩ := cells6 a.out
     try go_wp2
     replace a := Z (blk_drew a.out)
     replace HB := Z (below_drew1 HB.out)
     refine start_ (n := 10) (S := fun w' => w'.cell? ⟨c, 0, none⟩ = some (.int .i64 d) ∧ w'.cell? ⟨c, 1, none⟩ = some (.int .i64 g) ∧ w'.cell? ⟨c, 2, none⟩ = some (.slice u b.length x) ∧ w'.cell? ⟨c, 3, none⟩ = some (.int .i64 j) ∧ w'.cell? ⟨c, 4, none⟩ = some (.bool l) ∧ w'.cell? ⟨c, 5, none⟩ = some (.bool m)) (ds := []) (bv 10 0) (by kernel_rfl) rfl rfl ⟨(blk_cell a.out 0).trans rfl, (blk_cell a.out 1).trans rfl, (blk_cell a.out 2).trans rfl, (blk_cell a.out 3).trans rfl, (blk_cell a.out 4).trans rfl, (blk_cell a.out 5).trans rfl⟩ (fun hHeld => ?_); refine with_tabW shutterref11_Next.tab4 shutterref11_Next.bits4 (fun HT_ HW_ => ?_)
     generalize wr.drew = aQ at a HB hHeld ⊢
     refine pT_ HT_ 1 10 2 (some 15) ?_
     refine pT_ HT_ 2 10 6 (some 16) ?_
     refine pT_ HT_ 3 10 14 (some 17) ?_
     refine pT_ HT_ 4 10 30 (some 18) ?_
     refine tT_ HT_ HW_ hHeld 0 10 31 (some 14) ?_
     refine tT_ HT_ HW_ hHeld 5 10 63 (some 19) ?_
     refine pT_ HT_ 6 10 127 (some 20) ?_
     refine oT_ HT_ 7 10 255 (some 21) (fun K hK => ?_)
     refine goes_ Tryd.func47 (by kernel_rfl) rfl #[.int .i64 (wrap64 (a1 + o)), .int .i64 (b.length : Int)] (by rfl) rfl rfl ag_ ?_
     with_reducible refine (shutterref11_mod.calls k1 (wrap64 (a1 + o)) (b.length : Int) y _ A5.out).mono ?_
     rintro e w' ⟨rfl, ⟨nd, rfl⟩⟩
     refine ⟨_, rfl, ?_⟩
     refine hK.out _ _ ⟨(blk_cell a.out 0).trans rfl, (blk_cell a.out 1).trans rfl, (blk_cell a.out 2).trans rfl, (blk_cell a.out 3).trans rfl, (blk_cell a.out 4).trans rfl, (blk_cell a.out 5).trans rfl⟩ (fun hHeld => ?_)
     clear hK K
     refine nA_ (some 21) ?_
     refine oT_ HT_ 8 10 511 (some 22) (fun K hK => ?_)
     refine goes_ Tryd.func81 (by kernel_rfl) rfl #[.agg #[.int .i64 d, .int .i64 g, .slice u b.length x, .int .i64 j, .bool l, .bool m], .int .i64 y] (by rfl) rfl rfl ag_ ?_
     with_reducible refine (shutterref11_first.calls k1 d g _ _ b j l m y s _ ?side1 ?side2 A6.out).mono ?_
     (case side1 => repeat (first | exact (Kd.C_below A.out bl_) | (with_reducible apply pC)))
     (case side2 => exact z.out)
     rintro e aR ⟨rfl, hb⟩
     refine ⟨_, rfl, ?_⟩
     replace a := kb' a hb
     replace HB := bs_ hb
     clear hb
     refine hK.out _ _ ⟨(blk_cell a.out 0).trans rfl, (blk_cell a.out 1).trans rfl, (blk_cell a.out 2).trans rfl, (blk_cell a.out 3).trans rfl, (blk_cell a.out 4).trans rfl, (blk_cell a.out 5).trans rfl⟩ (fun hHeld => ?_)
     clear hK K
     refine nA_ (some 22) ?_
     refine pT_ HT_ 9 10 1023 (some 6) ?_
     refine done_ (done_of HT_.out (by kernel_rfl)) ?_
     try go_wp2
     go_roundg k1
     case measure => have := G.out; omega
     case rel => exact ⟨(wrap64 (o + 1)), (dn_), H', ⟨by have := G.out; omega⟩, ⟨vK a.out⟩, ⟨bl_⟩⟩
   ·rw [if_neg c4] at H
    have L : decide (o ≤ (b.length : Int)) = false := decide_eq_false c4
    clear c4
    obtain rfl := Option.some.inj H
    obtain ⟨ac, ad, ae, af, ag, ah, ao, ap, aq, ar, au, av⟩ := cells6 a.out
    go_wp2
    go_ret
    exact ⟨er_, bl_⟩
end Go.Proofs.YtggecanpjkpkiaaDoor.P
