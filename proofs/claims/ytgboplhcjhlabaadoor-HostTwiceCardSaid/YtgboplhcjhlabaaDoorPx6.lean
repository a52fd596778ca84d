/- pp.py and press2.py (wip/tools) wrote this text. -/
import Derived.Test.YtgboplhcjhlabaaDoorPx0
import Derived.Test.YtgboplhcjhlabaaDoorPxS
import Derived.Test.YtgboplhcjhlabaaDoorPx2
namespace Go.Proofs.YtgboplhcjhlabaaDoor.P
open Go.RowKit Go.Proofs.YtgboplhcjhlabaaDoorW.PrintWords Go.Proofs.YtgboplhcjhlabaaDoorW.PrintLast Go.Proofs.YtgboplhcjhlabaaDoorW.PrintMore
attribute [local go_sem] max2_int min2_int max_two min_two max_three min_three max_four min_four
attribute [local go_sem] Instr.field asAgg
set_option linter.unusedVariables false
set_option linter.unusedSimpArgs false

attribute [local go_sem high] eqA44
/-! ### shutterref10_Same: function 19 -/
mutual
def shutterref10_Same.j0 : Nat → Bool → Int → Int → List (S44) → Int → Bool → Bool → Int → Int → List (S44) → Int → Bool → Bool → Option (Bool)
 | 0, _, _, _, _, _, _, _, _, _, _, _, _, _ => none
 | k + 1, n, a, b, c, d, e, f, g, h, i, j, l, m => if n = true then (some false) else (shutterref10_Same.l0 k 0 a b c d e f g h i j l m)
def shutterref10_Same.l0 : Nat → Int → Int → Int → List (S44) → Int → Bool → Bool → Int → Int → List (S44) → Int → Bool → Bool → Option (Bool)
 | 0, _, _, _, _, _, _, _, _, _, _, _, _, _ => none
 | k + 1, c, d, e, a, f, g, h, i, j, b, l, m, n => if c < (a.length : Int) then (if 0 ≤ c then (if c < (b.length : Int) then (if (!(((rd_T44 a c).f0) == ((rd_T44 b c).f0)) || ((!(((rd_T44 a c).f1.f0) == ((rd_T44 b c).f1.f0)) || (!(((rd_T44 a c).f1.f1) == ((rd_T44 b c).f1.f1)) || (!(((rd_T44 a c).f1.f2) == ((rd_T44 b c).f1.f2)) || (!(((rd_T44 a c).f1.f3) == ((rd_T44 b c).f1.f3)))))) || (!(((rd_T44 a c).f2) == ((rd_T44 b c).f2))))) = true then (some false) else (shutterref10_Same.l0 k (wrap64 (c + 1)) d e a f g h i j b l m n)) else (none)) else (none)) else (some true)
end
def shutterref10_Same.f (k : Nat) (a : Int) (b : Int) (m : List (S44)) (c : Int) (d : Bool) (e : Bool) (g : Int) (h : Int) (n : List (S44)) (i : Int) (j : Bool) (l : Bool) : Option (Bool) := if a = g then (if b = h then (if c = i then (if (d != j) = true then (shutterref10_Same.j0 k true a b m c d e g h n i j l) else (if (e != l) = true then (shutterref10_Same.j0 k true a b m c d e g h n i j l) else (shutterref10_Same.j0 k ((m.length : Int) != (n.length : Int)) a b m c d e g h n i j l))) else (shutterref10_Same.j0 k true a b m c d e g h n i j l)) else (shutterref10_Same.j0 k true a b m c d e g h n i j l)) else (shutterref10_Same.j0 k true a b m c d e g h n i j l)
theorem shutterref10_Same.mono_l : ∀ k, (∀ d e f g i j l m n o a b c, LeO (shutterref10_Same.j0 k d e f g i j l m n o a b c) (shutterref10_Same.j0 (k + 1) d e f g i j l m n o a b c)) ∧ (∀ d e f g i j l m n o a b c, LeO (shutterref10_Same.l0 k d e f g i j l m n o a b c) (shutterref10_Same.l0 (k + 1) d e f g i j l m n o a b c))
 | 0 => ⟨fun _ _ _ _ _ _ _ _ _ _ _ _ _ r h => by simp [shutterref10_Same.j0] at h, fun _ _ _ _ _ _ _ _ _ _ _ _ _ r h => by simp [shutterref10_Same.l0] at h⟩
 | k + 1 => by
  obtain ⟨p, q⟩ := shutterref10_Same.mono_l k
  refine ⟨?_, ?_⟩
  ·intro d e f g i j l m n o a b c
   unfold shutterref10_Same.j0
   repeat' first
   | (with_reducible exact p _ _ _ _ _ _ _ _ _ _ _ _ _)
   | (with_reducible exact q _ _ _ _ _ _ _ _ _ _ _ _ _)
   | (with_reducible exact LeO.refl _)
   | (with_reducible exact LeO.none _)
   | (with_reducible refine LeO.ite ?_ ?_)
   | (with_reducible refine LeO.bind ?_ (fun _ => ?_))
   | exact p _ _ _ _ _ _ _ _ _ _ _ _ _
   | exact q _ _ _ _ _ _ _ _ _ _ _ _ _
   | exact LeO.none _
   | refine LeO.ite ?_ ?_
   | refine LeO.bind ?_ (fun _ => ?_)
  ·intro d e f g i j l m n o a b c
   unfold shutterref10_Same.l0
   repeat' first
   | (with_reducible exact p _ _ _ _ _ _ _ _ _ _ _ _ _)
   | (with_reducible exact q _ _ _ _ _ _ _ _ _ _ _ _ _)
   | (with_reducible exact LeO.refl _)
   | (with_reducible exact LeO.none _)
   | (with_reducible refine LeO.ite ?_ ?_)
   | (with_reducible refine LeO.bind ?_ (fun _ => ?_))
   | exact p _ _ _ _ _ _ _ _ _ _ _ _ _
   | exact q _ _ _ _ _ _ _ _ _ _ _ _ _
   | exact LeO.none _
   | refine LeO.ite ?_ ?_
   | refine LeO.bind ?_ (fun _ => ?_)
theorem shutterref10_Same.mono : ∀ a0 a1 e g a4 h i j l m a b k, LeO (shutterref10_Same.f k a0 a1 e g a4 h i j l m a b) (shutterref10_Same.f (k + 1) a0 a1 e g a4 h i j l m a b) := by
 intro a0 a1 e g a4 h i j l m a b k
 obtain ⟨c, d⟩ := shutterref10_Same.mono_l k
 unfold shutterref10_Same.f
 repeat' first
   | (with_reducible exact c _ _ _ _ _ _ _ _ _ _ _ _ _)
   | (with_reducible exact d _ _ _ _ _ _ _ _ _ _ _ _ _)
   | (with_reducible exact LeO.refl _)
   | (with_reducible exact LeO.none _)
   | (with_reducible refine LeO.ite ?_ ?_)
   | (with_reducible refine LeO.bind ?_ (fun _ => ?_))
   | exact c _ _ _ _ _ _ _ _ _ _ _ _ _
   | exact d _ _ _ _ _ _ _ _ _ _ _ _ _
   | exact LeO.none _
   | refine LeO.ite ?_ ?_
   | refine LeO.bind ?_ (fun _ => ?_)
set_option maxHeartbeats 8000000 in
set_option maxRecDepth 100000 in
theorem shutterref10_Same.calls (k : Nat) (p : Int) (q : Int) (U : Option Addr) (W : Nat) (c : List (S44)) (s : Int) (l : Bool) (m : Bool) (u : Int) (v : Int) (V : Option Addr) (X : Nat) (d : List (S44)) (x : Int) (n : Bool) (o : Bool) (r : Bool) (w : World) (dc : Kd.C k44 w U c.length c) (da : c.length ≤ W) (dd : Kd.C k44 w V d.length d) (db : d.length ≤ X) (h : shutterref10_Same.f k p q c s l m u v d x n o = some r) :
  Calls Tryd.prog 19 #[.agg #[.int .i64 p, .int .i64 q, .slice U c.length W, .int .i64 s, .bool l, .bool m], .agg #[.int .i64 u, .int .i64 v, .slice V d.length X, .int .i64 x, .bool n, .bool o]] w fun e w' => e = .returned (.bool r) ∧ Below w.heap.size w w' := by
 have eQ := Tryd.underlying24
 have eR := Tryd.underlying44
 have c0 := Z dc
 have es := Z da
 clear dc da
 have c3 := Z dd
 have et := Z db
 clear dd db
 have HB := Z (Below.refl w.heap.size w)
 have H : (if p = u then (if q = v then (if s = x then (if (l != n) = true then (shutterref10_Same.j0 k true p q c s l m u v d x n o) else (if (m != o) = true then (shutterref10_Same.j0 k true p q c s l m u v d x n o) else (shutterref10_Same.j0 k ((c.length : Int) != (d.length : Int)) p q c s l m u v d x n o))) else (shutterref10_Same.j0 k true p q c s l m u v d x n o)) else (shutterref10_Same.j0 k true p q c s l m u v d x n o)) else (shutterref10_Same.j0 k true p q c s l m u v d x n o)) = some r := h
 clear h
 have de := Z H
 clear H
 go_enter Tryd.func19, Tryd.ntmps19
 go_upto_region 1 with (first | ((with_reducible refine gate_dst (N := 2) rfl ?_); (try (refine gate_guard (by rfl) ?_; dsimp only)); refine bx_ 2 24 #[.int .i64 p, .int .i64 q, .slice U c.length W, .int .i64 s, .bool l, .bool m] ?_; intro M hg w4 hbox hb; have b := Z (hbox); have cY := Z (ln_ hg : w.heap.size ≤ M); have cW := Z (ln_ hg : w.heap.size ≤ M); replace HB := Z (below_step bl_ hb); clear hb hbox hg) | ((with_reducible refine gate_dst (N := 3) rfl ?_); (try (refine gate_guard (by rfl) ?_; dsimp only)); refine bx_ 3 24 #[.int .i64 u, .int .i64 v, .slice V d.length X, .int .i64 x, .bool n, .bool o] ?_; intro O hg w5 hbox hb; have j := Z (hbox); have cZ := Z (ln_ hg : w.heap.size ≤ O); have cX := Z (ln_ hg : w.heap.size ≤ O); replace HB := Z (below_step bl_ hb); have g := Z (nl b.out hg); have i := Z (ng b.out hg); replace b := Z (kb b.out hb); clear hb hbox hg))
 repeat (go_quiet (first | ((with_reducible refine gate_dst (N := 2) rfl ?_); (try (refine gate_guard (by rfl) ?_; dsimp only)); refine bx_ 2 24 #[.int .i64 p, .int .i64 q, .slice U c.length W, .int .i64 s, .bool l, .bool m] ?_; intro M hg w4 hbox hb; have b := Z (hbox); have cY := Z (ln_ hg : w.heap.size ≤ M); have cW := Z (ln_ hg : w.heap.size ≤ M); replace HB := Z (below_step bl_ hb); clear hb hbox hg) | ((with_reducible refine gate_dst (N := 3) rfl ?_); (try (refine gate_guard (by rfl) ?_; dsimp only)); refine bx_ 3 24 #[.int .i64 u, .int .i64 v, .slice V d.length X, .int .i64 x, .bool n, .bool o] ?_; intro O hg w5 hbox hb; have j := Z (hbox); have cZ := Z (ln_ hg : w.heap.size ≤ O); have cX := Z (ln_ hg : w.heap.size ≤ O); replace HB := Z (below_step bl_ hb); have g := Z (nl b.out hg); have i := Z (ng b.out hg); replace b := Z (kb b.out hb); clear hb hbox hg)); go_upto_region 1 with (first | ((with_reducible refine gate_dst (N := 2) rfl ?_); (try (refine gate_guard (by rfl) ?_; dsimp only)); refine bx_ 2 24 #[.int .i64 p, .int .i64 q, .slice U c.length W, .int .i64 s, .bool l, .bool m] ?_; intro M hg w4 hbox hb; have b := Z (hbox); have cY := Z (ln_ hg : w.heap.size ≤ M); have cW := Z (ln_ hg : w.heap.size ≤ M); replace HB := Z (below_step bl_ hb); clear hb hbox hg) | ((with_reducible refine gate_dst (N := 3) rfl ?_); (try (refine gate_guard (by rfl) ?_; dsimp only)); refine bx_ 3 24 #[.int .i64 u, .int .i64 v, .slice V d.length X, .int .i64 x, .bool n, .bool o] ?_; intro O hg w5 hbox hb; have j := Z (hbox); have cZ := Z (ln_ hg : w.heap.size ≤ O); have cX := Z (ln_ hg : w.heap.size ≤ O); replace HB := Z (below_step bl_ hb); have g := Z (nl b.out hg); have i := Z (ng b.out hg); replace b := Z (kb b.out hb); clear hb hbox hg)))
 (try simp only [Act.put, sA, sB, sC])
 go_cut [47] (fun er wc => ∃ (kq : Nat) (ah : Bool), er = .bool ah ∧ Aside0 (shutterref10_Same.j0 kq ah p q c s l m u v d x n o = some r) ∧ Aside0 (kq ≤ k) ∧ Aside0 (wc.heap[M]? = some (.cells #[.int .i64 p, .int .i64 q, (.slice U c.length W), .int .i64 s, .bool l, .bool m] 24 (0, 0))) ∧ Aside0 (wc.heap[O]? = some (.cells #[.int .i64 u, .int .i64 v, (.slice V d.length X), .int .i64 x, .bool n, .bool o] 24 (0, 0))) ∧ Aside0 (Below w.heap.size w wc))
 case first =>
  have H := de.out
  clear de
  by_cases c6 : p = u
  ·rw [if_pos c6] at H
   have Y : (p == u) = true := beq_iff_eq.mpr c6
   have cM : (p != u) = false := bne_eq_false_iff_eq.mpr c6
   clear c6
   (first | rw [Y] | (simp only [i64_w, i32_w]; rw [Y]) | skip)
   by_cases c7 : q = v
   ·rw [if_pos c7] at H
    have cN : (q == v) = true := beq_iff_eq.mpr c7
    have cO : (q != v) = false := bne_eq_false_iff_eq.mpr c7
    clear c7
    by_cases c8 : s = x
    ·rw [if_pos c8] at H
     have cP : (s == x) = true := beq_iff_eq.mpr c8
     have cQ : (s != x) = false := bne_eq_false_iff_eq.mpr c8
     clear c8
     by_cases c9 : (l != n) = true
     ·rw [if_pos c9] at H
      have cR : (l != n) = true := c9
      (try (have cS : decide (l = n) = false := by simpa using c9))
      (try (have cT : (l == n) = false := by simpa using c9))
      (try (have eP : ¬ (l = n) := by simpa using c9))
      clear c9
      have H' := Z H
      clear H
      have ex := g.out
      have eG := i.out
      obtain ⟨ak, al, am, an, ao, ap, bw, bx, bz, bA, bB, bC⟩ := cells6 b.out
      obtain ⟨aq, ar, au, av, aw, ax, bD, bE, bF, bG, bH, bI⟩ := cells6 j.out
      go_wp2
      repeat (go_quiet (fail); try go_wp2)
      go_meet
      case rel => exact ⟨_, (true), (dn_), H', ⟨by first | omega | exact Nat.le_refl _⟩, ⟨vK b.out⟩, ⟨vK j.out⟩, ⟨bl_⟩⟩
     ·rw [if_neg c9] at H
      have cR : (l != n) = false := by simpa using c9
      (try (have cS : decide (l = n) = true := by simpa using c9))
      (try (have cT : (l == n) = true := by simpa using c9))
      clear c9
      by_cases T : (m != o) = true
      ·rw [if_pos T] at H
       have cI : (m != o) = true := T
       (try (have cJ : decide (m = o) = false := by simpa using T))
       (try (have cK : (m == o) = false := by simpa using T))
       (try (have eu : ¬ (m = o) := by simpa using T))
       clear T
       have H' := Z H
       clear H
       have ey := g.out
       have eH := i.out
       obtain ⟨ay, az, aA, aB, aC, aD, bJ, bK, bL, bM, bN, bO⟩ := cells6 b.out
       obtain ⟨aE, aF, aG, aH, aI, aJ, bP, bQ, bR, bS, bT, bU⟩ := cells6 j.out
       go_wp2
       repeat (go_quiet (fail); try go_wp2)
       go_meet
       case rel => exact ⟨_, (true), (dn_), H', ⟨by first | omega | exact Nat.le_refl _⟩, ⟨vK b.out⟩, ⟨vK j.out⟩, ⟨bl_⟩⟩
      ·rw [if_neg T] at H
       have cI : (m != o) = false := by simpa using T
       (try (have cJ : decide (m = o) = true := by simpa using T))
       (try (have cK : (m == o) = true := by simpa using T))
       clear T
       have H' := Z H
       clear H
       have ez := g.out
       have eI := i.out
       obtain ⟨aK, aL, aM, aN, aO, aP, bV, bW, bX, bY, bZ, b0⟩ := cells6 b.out
       obtain ⟨aQ, aR, aS, aT, aU, aV, b1, b2, b3, b4, b5, b6⟩ := cells6 j.out
       go_wp2
       repeat (go_quiet (fail); try go_wp2)
       go_meet
       case rel => exact ⟨_, (((c.length : Int) != (d.length : Int))), (dn_), H', ⟨by first | omega | exact Nat.le_refl _⟩, ⟨vK b.out⟩, ⟨vK j.out⟩, ⟨bl_⟩⟩
    ·rw [if_neg c8] at H
     have cP : (s == x) = false := beq_eq_false_iff_ne.mpr c8
     have cQ : (s != x) = true := bne_iff_ne.mpr c8
     have H' := Z H
     clear H
     have eA := g.out
     have eJ := i.out
     obtain ⟨aW, aX, aY, aZ, a0, a1, b7, b8, b9, ca, cb, cc⟩ := cells6 b.out
     obtain ⟨a2, a3, a4, a5, a6, a7, cd, ce, cf, cg, ch, ci⟩ := cells6 j.out
     go_wp2
     repeat (go_quiet (fail); try go_wp2)
     go_meet
     case rel => exact ⟨_, (true), (dn_), H', ⟨by first | omega | exact Nat.le_refl _⟩, ⟨vK b.out⟩, ⟨vK j.out⟩, ⟨bl_⟩⟩
   ·rw [if_neg c7] at H
    have cN : (q == v) = false := beq_eq_false_iff_ne.mpr c7
    have cO : (q != v) = true := bne_iff_ne.mpr c7
    have H' := Z H
    clear H
    have eB := g.out
    have eK := i.out
    obtain ⟨a8, a9, ba, bb, bc, bd, cj, ck, cl, cm, cn, co⟩ := cells6 b.out
    obtain ⟨be, bf, bg, bh, bi, bj, cp, cq, cr, ct, cu, cv⟩ := cells6 j.out
    go_wp2
    repeat (go_quiet (fail); try go_wp2)
    go_meet
    case rel => exact ⟨_, (true), (dn_), H', ⟨by first | omega | exact Nat.le_refl _⟩, ⟨vK b.out⟩, ⟨vK j.out⟩, ⟨bl_⟩⟩
  ·rw [if_neg c6] at H
   have Y : (p == u) = false := beq_eq_false_iff_ne.mpr c6
   have cM : (p != u) = true := bne_iff_ne.mpr c6
   (first | rw [Y] | (simp only [i64_w, i32_w]; rw [Y]) | skip)
   have H' := Z H
   clear H
   have eC := g.out
   have eL := i.out
   obtain ⟨bk, bl, bm, bn, bo, bp, cw, cx, cy, cz, cA, cB⟩ := cells6 b.out
   obtain ⟨bq, br, bs, bt, bu, bv, cC, cD, cE, cF, cG, cH⟩ := cells6 j.out
   go_wp2
   repeat (go_quiet (fail); try go_wp2)
   go_meet
   case rel => exact ⟨_, (true), (dn_), H', ⟨by first | omega | exact Nat.le_refl _⟩, ⟨vK b.out⟩, ⟨vK j.out⟩, ⟨bl_⟩⟩
 case rest =>
  clear de
  try clear c1
  try clear c2
  try clear p2
  try clear c6
  try clear Y
  try clear cM
  try clear c7
  try clear cN
  try clear cO
  try clear c8
  try clear cP
  try clear cQ
  try clear c9
  try clear cR
  try clear cS
  try clear cT
  try clear c10
  try clear T
  try clear cI
  try clear cJ
  try clear cK
  try clear el
  try clear em
  try clear en
  try clear eo
  try clear ep
  try clear eq
  try clear ak
  try clear al
  try clear am
  try clear an
  try clear ao
  try clear ap
  try clear aq
  try clear ar
  try clear au
  try clear av
  try clear aw
  try clear ax
  try clear ay
  try clear az
  try clear aA
  try clear aB
  try clear aC
  try clear aD
  try clear aE
  try clear aF
  try clear aG
  try clear aH
  try clear aI
  try clear aJ
  try clear aK
  try clear aL
  try clear aM
  try clear aN
  try clear aO
  try clear aP
  try clear aQ
  try clear aR
  try clear aS
  try clear aT
  try clear aU
  try clear aV
  try clear aW
  try clear aX
  try clear aY
  try clear aZ
  try clear a0
  try clear a1
  try clear a2
  try clear a3
  try clear a4
  try clear a5
  try clear a6
  try clear a7
  try clear a8
  try clear a9
  try clear ba
  try clear bb
  try clear bc
  try clear bd
  try clear be
  try clear bf
  try clear bg
  try clear bh
  try clear bi
  try clear bj
  try clear bk
  try clear bl
  try clear bm
  try clear bn
  try clear bo
  try clear bp
  try clear bq
  try clear br
  try clear bs
  try clear bt
  try clear bu
  try clear bv
  try clear bw
  try clear bx
  try clear bz
  try clear bA
  try clear bB
  try clear bC
  try clear bD
  try clear bE
  try clear bF
  try clear bG
  try clear bH
  try clear bI
  try clear bJ
  try clear bK
  try clear bL
  try clear bM
  try clear bN
  try clear bO
  try clear bP
  try clear bQ
  try clear bR
  try clear bS
  try clear bT
  try clear bU
  try clear bV
  try clear bW
  try clear bX
  try clear bY
  try clear bZ
  try clear b0
  try clear b1
  try clear b2
  try clear b3
  try clear b4
  try clear b5
  try clear b6
  try clear b7
  try clear b8
  try clear b9
  try clear ca
  try clear cb
  try clear cc
  try clear cd
  try clear ce
  try clear cf
  try clear cg
  try clear ch
  try clear ci
  try clear cj
  try clear ck
  try clear cl
  try clear cm
  try clear cn
  try clear co
  try clear cp
  try clear cq
  try clear cr
  try clear ct
  try clear cu
  try clear cv
  try clear cw
  try clear cx
  try clear cy
  try clear cz
  try clear cA
  try clear cB
  try clear cC
  try clear cD
  try clear cE
  try clear cF
  try clear cG
  try clear cH
  obtain ⟨kq, ah, rfl, HA, dk, b, j, HB⟩ := hcut
  cases kq with
  | zero => exact absurd HA.out (by simp [shutterref10_Same.j0])
  | succ df =>
   have H := HA.out
   clear HA
   simp only [shutterref10_Same.j0] at H
   by_cases cL : ah = true
   ·subst cL
    have H1 : (some false) = some r := by rw [if_pos rfl] at H; exact H
    clear H
    have H := H1
    clear H1
    obtain rfl := Option.some.inj H
    go_wp2
    repeat (go_quiet (fail); try go_wp2)
    go_ret
    exact ⟨er_, bl_⟩
   ·replace cL := Bool.eq_false_iff.mpr cL
    subst cL
    have H1 : (shutterref10_Same.l0 df 0 p q c s l m u v d x n o) = some r := by rw [if_neg (show ¬ (false = true) by decide)] at H; exact H
    clear H
    have H := H1
    clear H1
    have H' := Z H
    clear H
    go_wp2
    repeat (go_quiet (fail); try go_wp2)
    go_loopg [5] df (fun kq v5 w' => ∃ (a : Int), v5 = .int .i64 a ∧ Aside0 (shutterref10_Same.l0 kq a p q c s l m u v d x n o = some r) ∧ Aside0 (kq ≤ df) ∧ Aside0 (w'.heap[M]? = some (.cells #[.int .i64 p, .int .i64 q, (.slice U c.length W), .int .i64 s, .bool l, .bool m] 24 (0, 0))) ∧ Aside0 (w'.heap[O]? = some (.cells #[.int .i64 u, .int .i64 v, (.slice V d.length X), .int .i64 x, .bool n, .bool o] 24 (0, 0))) ∧ Aside0 (Below w.heap.size w w'))
    case atStart => exact ⟨(0), (dn_), H', ⟨Nat.le_refl _⟩, ⟨vK b.out⟩, ⟨vK j.out⟩, ⟨bl_⟩⟩
    case round =>
     clear H'
     try clear c1
     try clear c2
     try clear p2
     try clear c6
     try clear Y
     try clear cM
     try clear c7
     try clear cN
     try clear cO
     try clear c8
     try clear cP
     try clear cQ
     try clear c9
     try clear cR
     try clear cS
     try clear cT
     try clear c10
     try clear T
     try clear cI
     try clear cJ
     try clear cK
     try clear el
     try clear em
     try clear en
     try clear eo
     try clear ep
     try clear eq
     try clear cL
     try clear ak
     try clear al
     try clear am
     try clear an
     try clear ao
     try clear ap
     try clear aq
     try clear ar
     try clear au
     try clear av
     try clear aw
     try clear ax
     try clear ay
     try clear az
     try clear aA
     try clear aB
     try clear aC
     try clear aD
     try clear aE
     try clear aF
     try clear aG
     try clear aH
     try clear aI
     try clear aJ
     try clear aK
     try clear aL
     try clear aM
     try clear aN
     try clear aO
     try clear aP
     try clear aQ
     try clear aR
     try clear aS
     try clear aT
     try clear aU
     try clear aV
     try clear aW
     try clear aX
     try clear aY
     try clear aZ
     try clear a0
     try clear a1
     try clear a2
     try clear a3
     try clear a4
     try clear a5
     try clear a6
     try clear a7
     try clear a8
     try clear a9
     try clear ba
     try clear bb
     try clear bc
     try clear bd
     try clear be
     try clear bf
     try clear bg
     try clear bh
     try clear bi
     try clear bj
     try clear bk
     try clear bl
     try clear bm
     try clear bn
     try clear bo
     try clear bp
     try clear bq
     try clear br
     try clear bs
     try clear bt
     try clear bu
     try clear bv
     try clear bw
     try clear bx
     try clear bz
     try clear bA
     try clear bB
     try clear bC
     try clear bD
     try clear bE
     try clear bF
     try clear bG
     try clear bH
     try clear bI
     try clear bJ
     try clear bK
     try clear bL
     try clear bM
     try clear bN
     try clear bO
     try clear bP
     try clear bQ
     try clear bR
     try clear bS
     try clear bT
     try clear bU
     try clear bV
     try clear bW
     try clear bX
     try clear bY
     try clear bZ
     try clear b0
     try clear b1
     try clear b2
     try clear b3
     try clear b4
     try clear b5
     try clear b6
     try clear b7
     try clear b8
     try clear b9
     try clear ca
     try clear cb
     try clear cc
     try clear cd
     try clear ce
     try clear cf
     try clear cg
     try clear ch
     try clear ci
     try clear cj
     try clear ck
     try clear cl
     try clear cm
     try clear cn
     try clear co
     try clear cp
     try clear cq
     try clear cr
     try clear ct
     try clear cu
     try clear cv
     try clear cw
     try clear cx
     try clear cy
     try clear cz
     try clear cA
     try clear cB
     try clear cC
     try clear cD
     try clear cE
     try clear cF
     try clear cG
     try clear cH
     try clear p2
     obtain ⟨a, rfl, HA, dl, b, j, HB⟩ := hrel
     cases gk with
     | zero => exact absurd HA.out (by simp [shutterref10_Same.l0])
     | succ k2 =>
      have H := HA.out
      clear HA
      simp only [shutterref10_Same.l0] at H
      by_cases ai : a < (c.length : Int)
      ·rw [if_pos ai] at H
       have di : decide (a < (c.length : Int)) = true := decide_eq_true ai
       clear ai
       by_cases c4 : 0 ≤ a
       ·rw [if_pos c4] at H
        have ev : decide (0 ≤ a) = true := decide_eq_true c4
        clear c4
        by_cases c5 : a < (d.length : Int)
        ·rw [if_pos c5] at H
         have ew : decide (a < (d.length : Int)) = true := decide_eq_true c5
         clear c5
         by_cases aj : (!(((rd_T44 c a).f0) == ((rd_T44 d a).f0)) || ((!(((rd_T44 c a).f1.f0) == ((rd_T44 d a).f1.f0)) || (!(((rd_T44 c a).f1.f1) == ((rd_T44 d a).f1.f1)) || (!(((rd_T44 c a).f1.f2) == ((rd_T44 d a).f1.f2)) || (!(((rd_T44 c a).f1.f3) == ((rd_T44 d a).f1.f3)))))) || (!(((rd_T44 c a).f2) == ((rd_T44 d a).f2))))) = true
         ·rw [if_pos aj] at H
          have dj : (!(((rd_T44 c a).f0) == ((rd_T44 d a).f0)) || ((!(((rd_T44 c a).f1.f0) == ((rd_T44 d a).f1.f0)) || (!(((rd_T44 c a).f1.f1) == ((rd_T44 d a).f1.f1)) || (!(((rd_T44 c a).f1.f2) == ((rd_T44 d a).f1.f2)) || (!(((rd_T44 c a).f1.f3) == ((rd_T44 d a).f1.f3)))))) || (!(((rd_T44 c a).f2) == ((rd_T44 d a).f2))))) = true := aj
          clear aj
          obtain rfl := Option.some.inj H
          have eD := g.out
          have eM := i.out
          obtain ⟨dm, dn, dp, dq, dr, ds, dR, dS, dT, dU, dV, dW⟩ := cells6 b.out
          have aa : 0 ≤ (a : Int) := od_
          have ac : a < (c.length : Int) := od_
          obtain ⟨dg, cU, y, z, A, B, D, E⟩ := at_T44 c0.out a aa ac
          cases cU
          replace y := (HB.out.cell (bk_ w _ y)).trans y
          replace z := (HB.out.cell (bk_ w _ z)).trans z
          replace A := (HB.out.cell (bk_ w _ A)).trans A
          replace B := (HB.out.cell (bk_ w _ B)).trans B
          replace D := (HB.out.cell (bk_ w _ D)).trans D
          replace E := (HB.out.cell (bk_ w _ E)).trans E
          replace aa := eq_true aa
          replace ac := eq_true ac
          obtain ⟨dt, du, dv, dw, dx, dy, dX, dY, dZ, d0, d1, d2⟩ := cells6 j.out
          have ab : 0 ≤ (a : Int) := od_
          have ad : a < (d.length : Int) := od_
          obtain ⟨dh, cV, F, G, I, J, K, L⟩ := at_T44 c3.out a ab ad
          cases cV
          replace F := (HB.out.cell (bk_ w _ F)).trans F
          replace G := (HB.out.cell (bk_ w _ G)).trans G
          replace I := (HB.out.cell (bk_ w _ I)).trans I
          replace J := (HB.out.cell (bk_ w _ J)).trans J
          replace K := (HB.out.cell (bk_ w _ K)).trans K
          replace L := (HB.out.cell (bk_ w _ L)).trans L
          replace ab := eq_true ab
          replace ad := eq_true ad
          go_wp2
          repeat (go_quiet (fail); try go_wp2)
          go_ret
          exact ⟨er_, bl_⟩
         ·rw [if_neg aj] at H
          have dj : (!(((rd_T44 c a).f0) == ((rd_T44 d a).f0)) || ((!(((rd_T44 c a).f1.f0) == ((rd_T44 d a).f1.f0)) || (!(((rd_T44 c a).f1.f1) == ((rd_T44 d a).f1.f1)) || (!(((rd_T44 c a).f1.f2) == ((rd_T44 d a).f1.f2)) || (!(((rd_T44 c a).f1.f3) == ((rd_T44 d a).f1.f3)))))) || (!(((rd_T44 c a).f2) == ((rd_T44 d a).f2))))) = false := by simpa using aj
          clear aj
          have H' := Z H
          clear H
          have eE := g.out
          have eN := i.out
          obtain ⟨dz, dA, dB, dC, dD, dE, d3, d4, d5, d6, d7, d8⟩ := cells6 b.out
          have aa : 0 ≤ (a : Int) := od_
          have ac : a < (c.length : Int) := od_
          obtain ⟨dg, cU, y, z, A, B, D, E⟩ := at_T44 c0.out a aa ac
          cases cU
          replace y := (HB.out.cell (bk_ w _ y)).trans y
          replace z := (HB.out.cell (bk_ w _ z)).trans z
          replace A := (HB.out.cell (bk_ w _ A)).trans A
          replace B := (HB.out.cell (bk_ w _ B)).trans B
          replace D := (HB.out.cell (bk_ w _ D)).trans D
          replace E := (HB.out.cell (bk_ w _ E)).trans E
          replace aa := eq_true aa
          replace ac := eq_true ac
          obtain ⟨dF, dG, dH, dI, dJ, dK, d9, ea, eb, ec, ed, ee⟩ := cells6 j.out
          have ab : 0 ≤ (a : Int) := od_
          have ad : a < (d.length : Int) := od_
          obtain ⟨dh, cV, F, G, I, J, K, L⟩ := at_T44 c3.out a ab ad
          cases cV
          replace F := (HB.out.cell (bk_ w _ F)).trans F
          replace G := (HB.out.cell (bk_ w _ G)).trans G
          replace I := (HB.out.cell (bk_ w _ I)).trans I
          replace J := (HB.out.cell (bk_ w _ J)).trans J
          replace K := (HB.out.cell (bk_ w _ K)).trans K
          replace L := (HB.out.cell (bk_ w _ L)).trans L
          replace ab := eq_true ab
          replace ad := eq_true ad
          go_wp2
          repeat (go_quiet (fail); try go_wp2)
          go_roundg k2
          case measure => have := dk.out; have := dl.out; omega
          case rel => exact ⟨(wrap64 (a + 1)), (dn_), H', ⟨by have := dk.out; have := dl.out; omega⟩, ⟨vK b.out⟩, ⟨vK j.out⟩, ⟨bl_⟩⟩
        ·rw [if_neg c5] at H
         exact absurd H (by simp)
       ·rw [if_neg c4] at H
        exact absurd H (by simp)
      ·rw [if_neg ai] at H
       have di : decide (a < (c.length : Int)) = false := decide_eq_false ai
       clear ai
       obtain rfl := Option.some.inj H
       have eF := g.out
       have eO := i.out
       obtain ⟨dL, dM, dN, dO, dP, dQ, ef, eg, eh, ei, ej, ek⟩ := cells6 b.out
       go_wp2
       repeat (go_quiet (fail); try go_wp2)
       go_ret
       exact ⟨er_, bl_⟩

end Go.Proofs.YtgboplhcjhlabaaDoor.P
