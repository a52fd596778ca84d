
/- The functions of the seat's laws as plain Lean functions, and that Go's code comes to just their answers. Written by pp.py (wip/tools), a program of this session, on the kit's print. -/
import Derived.Test.YtggecanpjkpkiaaDoorPx0
import Derived.Test.YtggecanpjkpkiaaDoorPx3
import Derived.Test.YtggecanpjkpkiaaDoorPx4
import Derived.Test.YtggecanpjkpkiaaDoorPx5
import Derived.Test.YtggecanpjkpkiaaDoorPx9
import Derived.Test.YtggecanpjkpkiaaDoorPx13
import Derived.Test.YtggecanpjkpkiaaDoorPx21
import Derived.Test.YtggecanpjkpkiaaDoorPx22
import Derived.Test.YtggecanpjkpkiaaDoorUX
namespace Go.Proofs.YtggecanpjkpkiaaDoor.P
open Go.RowKit Go.Proofs.YtggecanpjkpkiaaDoorW.PrintWords Go.Proofs.YtggecanpjkpkiaaDoorW.PrintLast Go.Proofs.YtggecanpjkpkiaaDoorW.PrintMore
attribute [local go_sem] max2_int min2_int max_two min_two max_three min_three max_four min_four   -- for this text's walks alone
attribute [local go_sem] Instr.field asAgg
set_option linter.unusedVariables false
set_option linter.unusedSimpArgs false

/-! ### shutterlaw16_WipeUndoes: function 12 -/
mutual
def shutterlaw16_WipeUndoes.l0 : Nat → Int → List Int → Int → Int → Int → List (S35) → Int → Bool → Bool → Option (Bool)
 | 0, _, _, _, _, _, _, _, _, _ => none
 | k + 1, n, m, l, g, h, d, e, i, j => if l < (m.length : Int) then (if 0 ≤ l then (if 0 ≤ (rd m l) then (if (rd m l) < (d.length : Int) then (if ((((rd_T35 d (rd m l)).f2) == 0) != ((wrap64 (l + 1)) == (m.length : Int))) = true then (some true) else (shutterlaw16_WipeUndoes.l0 k n m (wrap64 (l + 1)) g h d e i j)) else (none)) else (none)) else (none)) else ((edit_Type.f k g h d e i j n).bind fun c => (if c.2.2.2.2.2.2.1.isNone = true then ((wipe_Do.f k c.1 c.2.1 c.2.2.1 e c.2.2.2.2.1 c.2.2.2.2.2.1 12).bind fun a => ((wipe_Do.f k c.1 c.2.1 c.2.2.1 e c.2.2.2.2.1 c.2.2.2.2.2.1 13).bind fun b => (if a.2.2.2.2.2.2.1.isNone = true then (if b.2.2.2.2.2.2.1.isNone = true then (shutterlaw16_WipeUndoes.j1 k n false g h d e i j a.1 a.2.1 a.2.2.1 a.2.2.2.1 a.2.2.2.2.1 a.2.2.2.2.2.1 b.1 b.2.1 b.2.2.1 b.2.2.2.1 b.2.2.2.2.1 b.2.2.2.2.2.1) else (shutterlaw16_WipeUndoes.j1 k n true g h d e i j a.1 a.2.1 a.2.2.1 a.2.2.2.1 a.2.2.2.2.1 a.2.2.2.2.2.1 b.1 b.2.1 b.2.2.1 b.2.2.2.1 b.2.2.2.2.1 b.2.2.2.2.2.1)) else (none)))) else (some true)))
def shutterlaw16_WipeUndoes.j1 : Nat → Int → Bool → Int → Int → List (S35) → Int → Bool → Bool → Int → Int → List (S35) → Int → Bool → Bool → Int → Int → List (S35) → Int → Bool → Bool → Option (Bool)
 | 0, _, _, _, _, _, _, _, _, _, _, _, _, _, _, _, _, _, _, _, _ => none
 | k + 1, y, x, c, d, e, b, g, h, i, j, l, m, n, o, p, q, r, s, t, u => if x = true then (none) else ((edit_Type.f k p q r s t u y).bind fun v => ((edit_Modify.f c d e b g h b).bind fun a => ((shutterref10_Same.f k i j l m n o a.1 a.2.1 a.2.2.1 a.2.2.2.1 a.2.2.2.2.1 a.2.2.2.2.2).bind fun w => (if w = true then (if v.2.2.2.2.2.2.1.isNone = true then (some true) else (none)) else (none)))))
end
def shutterlaw16_WipeUndoes.f (k : Nat) (b : Int) (c : Int) (d : List (S35)) (a : Int) (j : Bool) (l : Bool) (a1 : Int) : Option (Bool) := (shutterlaw16_awake.f k).bind fun e => (if e = true then ((shutterref10_Few.f k b c d a j l).bind fun g => (if g = true then ((edit_Line.f k b c d a false true a).bind fun i => (shutterlaw16_WipeUndoes.l0 k a1 i 0 b c d a false true)) else ((shutterlaw16_awake.f k).bind fun h => (some h)))) else (none))
theorem shutterlaw16_WipeUndoes.mono_l : ∀ k, (∀ a b c d e f g i j, LeO (shutterlaw16_WipeUndoes.l0 k a b c d e f g i j) (shutterlaw16_WipeUndoes.l0 (k + 1) a b c d e f g i j)) ∧ (∀ a b c d e f g i j y n o p q s t u v w x, LeO (shutterlaw16_WipeUndoes.j1 k a b c d e f g i j y n o p q s t u v w x) (shutterlaw16_WipeUndoes.j1 (k + 1) a b c d e f g i j y n o p q s t u v w x))
 | 0 => ⟨fun _ _ _ _ _ _ _ _ _ r h => by simp [shutterlaw16_WipeUndoes.l0] at h, fun _ _ _ _ _ _ _ _ _ _ _ _ _ _ _ _ _ _ _ _ r h => by simp [shutterlaw16_WipeUndoes.j1] at h⟩
 | k + 1 => by
  obtain ⟨l, m⟩ := shutterlaw16_WipeUndoes.mono_l k
  refine ⟨?_, ?_⟩
  ·intro a b c d e f g i j
   unfold shutterlaw16_WipeUndoes.l0
   repeat' first
   | (with_reducible exact l _ _ _ _ _ _ _ _ _)
   | (with_reducible exact m _ _ _ _ _ _ _ _ _ _ _ _ _ _ _ _ _ _ _ _)
   | (with_reducible exact edit_Line.mono _ _ _ _ _ _ _ _)
   | (with_reducible exact edit_Type.mono _ _ _ _ _ _ _ _)
   | (with_reducible exact shutterlaw16_awake.mono _)
   | (with_reducible exact shutterref10_Few.mono _ _ _ _ _ _ _)
   | (with_reducible exact shutterref10_Same.mono _ _ _ _ _ _ _ _ _ _ _ _ _)
   | (with_reducible exact wipe_Do.mono _ _ _ _ _ _ _ _)
   | (with_reducible exact LeO.refl _)
   | (with_reducible exact LeO.none _)
   | (with_reducible refine LeO.ite ?_ ?_)
   | (with_reducible refine LeO.bind ?_ (fun _ => ?_))
   | exact l _ _ _ _ _ _ _ _ _
   | exact m _ _ _ _ _ _ _ _ _ _ _ _ _ _ _ _ _ _ _ _
   | exact edit_Line.mono _ _ _ _ _ _ _ _
   | exact edit_Type.mono _ _ _ _ _ _ _ _
   | exact shutterlaw16_awake.mono _
   | exact shutterref10_Few.mono _ _ _ _ _ _ _
   | exact shutterref10_Same.mono _ _ _ _ _ _ _ _ _ _ _ _ _
   | exact wipe_Do.mono _ _ _ _ _ _ _ _
   | exact LeO.none _
   | refine LeO.ite ?_ ?_
   | refine LeO.bind ?_ (fun _ => ?_)
  ·intro a b c d e f g i j y n o p q s t u v w x
   unfold shutterlaw16_WipeUndoes.j1
   repeat' first
   | (with_reducible exact l _ _ _ _ _ _ _ _ _)
   | (with_reducible exact m _ _ _ _ _ _ _ _ _ _ _ _ _ _ _ _ _ _ _ _)
   | (with_reducible exact edit_Line.mono _ _ _ _ _ _ _ _)
   | (with_reducible exact edit_Type.mono _ _ _ _ _ _ _ _)
   | (with_reducible exact shutterlaw16_awake.mono _)
   | (with_reducible exact shutterref10_Few.mono _ _ _ _ _ _ _)
   | (with_reducible exact shutterref10_Same.mono _ _ _ _ _ _ _ _ _ _ _ _ _)
   | (with_reducible exact wipe_Do.mono _ _ _ _ _ _ _ _)
   | (with_reducible exact LeO.refl _)
   | (with_reducible exact LeO.none _)
   | (with_reducible refine LeO.ite ?_ ?_)
   | (with_reducible refine LeO.bind ?_ (fun _ => ?_))
   | exact l _ _ _ _ _ _ _ _ _
   | exact m _ _ _ _ _ _ _ _ _ _ _ _ _ _ _ _ _ _ _ _
   | exact edit_Line.mono _ _ _ _ _ _ _ _
   | exact edit_Type.mono _ _ _ _ _ _ _ _
   | exact shutterlaw16_awake.mono _
   | exact shutterref10_Few.mono _ _ _ _ _ _ _
   | exact shutterref10_Same.mono _ _ _ _ _ _ _ _ _ _ _ _ _
   | exact wipe_Do.mono _ _ _ _ _ _ _ _
   | exact LeO.none _
   | refine LeO.ite ?_ ?_
   | refine LeO.bind ?_ (fun _ => ?_)
theorem shutterlaw16_WipeUndoes.mono : ∀ a0 a1 c d a4 e g k, LeO (shutterlaw16_WipeUndoes.f k a0 a1 c d a4 e g) (shutterlaw16_WipeUndoes.f (k + 1) a0 a1 c d a4 e g) := by
 intro a0 a1 c d a4 e g k
 obtain ⟨a, b⟩ := shutterlaw16_WipeUndoes.mono_l k
 unfold shutterlaw16_WipeUndoes.f
 repeat' first
   | (with_reducible exact a _ _ _ _ _ _ _ _ _)
   | (with_reducible exact b _ _ _ _ _ _ _ _ _ _ _ _ _ _ _ _ _ _ _ _)
   | (with_reducible exact edit_Line.mono _ _ _ _ _ _ _ _)
   | (with_reducible exact edit_Type.mono _ _ _ _ _ _ _ _)
   | (with_reducible exact shutterlaw16_awake.mono _)
   | (with_reducible exact shutterref10_Few.mono _ _ _ _ _ _ _)
   | (with_reducible exact shutterref10_Same.mono _ _ _ _ _ _ _ _ _ _ _ _ _)
   | (with_reducible exact wipe_Do.mono _ _ _ _ _ _ _ _)
   | (with_reducible exact LeO.refl _)
   | (with_reducible exact LeO.none _)
   | (with_reducible refine LeO.ite ?_ ?_)
   | (with_reducible refine LeO.bind ?_ (fun _ => ?_))
   | exact a _ _ _ _ _ _ _ _ _
   | exact b _ _ _ _ _ _ _ _ _ _ _ _ _ _ _ _ _ _ _ _
   | exact edit_Line.mono _ _ _ _ _ _ _ _
   | exact edit_Type.mono _ _ _ _ _ _ _ _
   | exact shutterlaw16_awake.mono _
   | exact shutterref10_Few.mono _ _ _ _ _ _ _
   | exact shutterref10_Same.mono _ _ _ _ _ _ _ _ _ _ _ _ _
   | exact wipe_Do.mono _ _ _ _ _ _ _ _
   | exact LeO.none _
   | refine LeO.ite ?_ ?_
   | refine LeO.bind ?_ (fun _ => ?_)
def shutterlaw16_WipeUndoes.T9 : Bool × List (List Nat × List Nat) := (true, [([], []), ([0], [0]), ([], []), ([], []), ([2, 3], [2, 3]), ([4], [4]), ([1, 5], [1, 5]), ([6], [6]), ([7], [7]), ([8], [8]), ([], []), ([10], [10]), ([], []), ([12], [12]), ([11, 13], [11, 13]), ([9, 14], [9, 14])])
def shutterlaw16_WipeUndoes.B9 : List Nat := [0, 1, 0, 0, 12, 28, 63, 127, 255, 511, 0, 1024, 0, 4096, 15360, 32767]
theorem shutterlaw16_WipeUndoes.tab9 : rtab .any (opsOf Tryd.f12 9) = shutterlaw16_WipeUndoes.T9 := by kernel_rfl
theorem shutterlaw16_WipeUndoes.bits9 : waitsOk shutterlaw16_WipeUndoes.T9.2 shutterlaw16_WipeUndoes.B9 = true := by kernel_rfl
def shutterlaw16_WipeUndoes.T20 : Bool × List (List Nat × List Nat) := (true, [([], []), ([], []), ([], []), ([2], [2]), ([1, 3], [1, 3]), ([0, 4, 4], [0, 4]), ([5, 5], [5]), ([6], [6]), ([7, 6], [6, 7]), ([6, 8], [6, 8]), ([9, 6, 0, 1, 2, 3, 4, 5, 6, 7, 8, 9], [9])])
def shutterlaw16_WipeUndoes.B20 : List Nat := [0, 0, 0, 4, 14, 31, 63, 127, 255, 511, 1023]
theorem shutterlaw16_WipeUndoes.tab20 : rtab .any (opsOf Tryd.f12 20) = shutterlaw16_WipeUndoes.T20 := by kernel_rfl
theorem shutterlaw16_WipeUndoes.bits20 : waitsOk shutterlaw16_WipeUndoes.T20.2 shutterlaw16_WipeUndoes.B20 = true := by kernel_rfl
set_option maxHeartbeats 8000000 in
set_option maxRecDepth 100000 in
theorem shutterlaw16_WipeUndoes.calls (k : Nat) (D : Int) (E : Int) (aR : Option Addr) (aK : Nat) (q : List (S35)) (s : Int) (a3 : Bool) (bl : Bool) (a1 : Int) (r : Bool) (w : World) (da : Kd.C k35 w aR q.length q) (c9 : q.length ≤ aK) (hG : LaidG w) (h : shutterlaw16_WipeUndoes.f k D E q s a3 bl a1 = some r) :
  Calls Tryd.prog 12 #[.agg #[.int .i64 D, .int .i64 E, .slice aR q.length aK, .int .i64 s, .bool a3, .bool bl], .int .u8 a1] w fun e w' => e = .returned (.bool r) ∧ Below w.heap.size w w' := by
 have HG := Z hG
 clear hG
 have hT := Tryd.underlying24
 have hU := Tryd.underlying28
 have hV := Tryd.underlying52
 have bb := Z da
 have bw := Z c9
 clear da c9
 have HB := Z (Below.refl w.heap.size w)
 have H : ((shutterlaw16_awake.f k).bind fun bP => (if bP = true then ((shutterref10_Few.f k D E q s a3 bl).bind fun bh => (if bh = true then ((edit_Line.f k D E q s false true s).bind fun c => (shutterlaw16_WipeUndoes.l0 k a1 c 0 D E q s false true)) else ((shutterlaw16_awake.f k).bind fun aS => (some aS)))) else (none))) = some r := h
 clear h
 replace H := Option.bind_eq_some_iff.mp H
 obtain ⟨bP, fh, H⟩ := H
 replace H : (if bP = true then ((shutterref10_Few.f k D E q s a3 bl).bind fun bh => (if bh = true then ((edit_Line.f k D E q s false true s).bind fun c => (shutterlaw16_WipeUndoes.l0 k a1 c 0 D E q s false true)) else ((shutterlaw16_awake.f k).bind fun aS => (some aS)))) else (none)) = some r := H
 have A3 := Z fh
 clear fh
 by_cases c4 : bP = true
 ·subst c4
  have H1 : ((shutterref10_Few.f k D E q s a3 bl).bind fun bh => (if bh = true then ((edit_Line.f k D E q s false true s).bind fun c => (shutterlaw16_WipeUndoes.l0 k a1 c 0 D E q s false true)) else ((shutterlaw16_awake.f k).bind fun aS => (some aS)))) = some r := by rw [if_pos rfl] at H; exact H
  clear H
  have H := H1
  clear H1
  replace H := Option.bind_eq_some_iff.mp H
  obtain ⟨bh, fi, H⟩ := H
  replace H : (if bh = true then ((edit_Line.f k D E q s false true s).bind fun c => (shutterlaw16_WipeUndoes.l0 k a1 c 0 D E q s false true)) else ((shutterlaw16_awake.f k).bind fun aS => (some aS))) = some r := H
  have A5 := Z fi
  clear fi
  by_cases c6 : bh = true
  ·subst c6
   have H1 : ((edit_Line.f k D E q s false true s).bind fun c => (shutterlaw16_WipeUndoes.l0 k a1 c 0 D E q s false true)) = some r := by rw [if_pos rfl] at H; exact H
   clear H
   have H := H1
   clear H1
   replace H := Option.bind_eq_some_iff.mp H
   obtain ⟨c, fj, H⟩ := H
   replace H : (shutterlaw16_WipeUndoes.l0 k a1 c 0 D E q s false true) = some r := H
   have A7 := Z fj
   clear fj
   have H' := Z H
   clear H
   go_enter Tryd.func12, Tryd.ntmps12
   go_wp2_with (first | ((with_reducible refine gate_dst (N := 2) rfl ?_); refine box_event ?hg (N := 2) ?hd (cs := #[.int .i64 D, .int .i64 E, .slice aR q.length aK, .int .i64 s, .bool a3, .bool bl]) (t := 24) ?hr ?_; (case hd => rfl); (case hg => rfl); (case hr => first | (go_simp; done) | (go_simp; rfl)); intro l hg w8 hbox hb; have A := Z (below_step bl_ hb); have B := Z (hbox); have G := Z ((le_new hg (below_size bl_) : w.heap.size ≤ l)); have L := Z ((le_new hg (below_size bl_) : w.heap.size ≤ l)); clear HB; have HB := A; have a := B; have br := G; have eY := L; clear A B G L; clear hb hbox hg) | ((with_reducible refine gate_callee (f := 17) rfl ?_); refine goesL_ (some 15) rfl rfl Tryd.func17 (by kernel_rfl) rfl #[] rfl ag_ ?_; (with_reducible refine (shutterlaw16_awake.calls k  true _ ?sideG A3.out).mono ?_); (case sideG => exact laidG_below HG.out bl_ rfl); rintro e w9 ⟨rfl, hb⟩; refine ⟨_, rfl, ?_⟩; have A := Z (kb a.out hb); have B := Z (below_step bl_ hb); clear a HB; have a := A; have HB := B; clear A B; (try clear hb); (try clear bq); (try clear hk); (try clear hi); obtain ⟨ce, cf, cg, ch, ci, cj, cq, cr, ct, cu, cv, cw⟩ := cells6 a.out) | (go_at_call 18; (with_reducible refine (shutterref10_Few.calls k D E _ _ q s a3 bl true _ ?side1 ?side2 A5.out).mono ?_); (case side1 => repeat (first | exact (Kd.C_below bb.out HB.out) | (with_reducible apply pC))); (case side2 => exact bw.out); rintro e h7 ⟨rfl, hb⟩; have A := Z (kb a.out hb); have B := Z (below_step bl_ hb); clear a HB; have a := A; have HB := B; clear A B; (try clear hb); (try clear bq); (try clear hk); (try clear hi); obtain ⟨ck, cl, cm, cn, co, cp, cx, cy, cz, cA, cB, cC⟩ := cells6 a.out) | ((with_reducible refine gate_callee (f := 26) rfl ?_); refine goesL_ (some 28) rfl rfl Tryd.func26 (by kernel_rfl) rfl #[.agg #[.int .i64 D, .int .i64 E, .slice aR q.length aK, .int .i64 s, .bool false, .bool true], .int .i64 s] rfl ag_ ?_; (with_reducible refine (edit_Line.calls k D E _ _ q s false true s c _ ?side1 ?side2 A7.out).mono ?_); (case side1 => exact Kd.C_below bb.out bl_); (case side2 => exact bw.out); rintro e h8 ⟨fc, rfl, aQ, hb⟩; refine ⟨_, rfl, ?_⟩; have A := Z (Kd.Q_lower aQ (below_size bl_)); have B := Z (blk_below (g := l) (o := .cells #[.int .i64 D, .int .i64 E, .slice aR q.length aK, .int .i64 s, .bool false, .bool true] 24 (0, 0)) (by (with_reducible repeat apply pK); refine blk_put (cs := #[.int .i64 D, .int .i64 E, .slice aR q.length aK, .int .i64 s, .bool a3, .bool true]) ?_ 4 _ rfl; (with_reducible repeat apply pK); refine blk_put (cs := #[.int .i64 D, .int .i64 E, .slice aR q.length aK, .int .i64 s, .bool a3, .bool bl]) ?_ 5 _ rfl; (with_reducible repeat apply pK); exact a.out) hb); have G := Z (below_step bl_ hb); clear a HB; have e1 := A; have a := B; have HB := G; clear A B G; (try clear hb); (try clear bq); (try clear hk); (try clear hi); (try clear aQ)))
   go_loopg [6] k (fun kq v6 w' => ∃ (u : Int), v6 = .int .i64 u ∧ Aside0 (shutterlaw16_WipeUndoes.l0 kq a1 c u D E q s false true = some r) ∧ Aside0 (kq ≤ k) ∧ Aside0 (Kd.Q (Kd.int .i64) 3 w' w.heap.size (fun _ => True) fc c) ∧ Aside0 (w'.heap[l]? = some (.cells #[.int .i64 D, .int .i64 E, (.slice aR q.length aK), .int .i64 s, .bool false, .bool true] 24 (0, 0))) ∧ Aside0 (Below w.heap.size w w'))
   case atStart => exact ⟨(0), (by first | rfl | (simp; done) | (simp [*]; done)), H', ⟨Nat.le_refl _⟩, ⟨by (with_reducible repeat (first | apply Kd.Q_alloc | apply Kd.Q_drewN | apply Kd.Q_drew)); exact e1.out⟩, ⟨by (with_reducible repeat apply pK); exact a.out⟩, ⟨bl_⟩⟩
   case round =>
    clear H'
    try clear c1
    try clear c2
    try clear p2
    try clear c4
    try clear c6
    try clear gU
    try clear ce
    try clear cf
    try clear cg
    try clear ch
    try clear ci
    try clear cj
    try clear ck
    try clear cl
    try clear cm
    try clear cn
    try clear co
    try clear cp
    try clear cq
    try clear cr
    try clear ct
    try clear cu
    try clear cv
    try clear cw
    try clear cx
    try clear cy
    try clear cz
    try clear cA
    try clear cB
    try clear cC
    obtain ⟨u, rfl, HA, cW, HO_5, a, HB⟩ := hrel
    cases gk with
    | zero => exact absurd HA.out (by simp [shutterlaw16_WipeUndoes.l0])
    | succ k1 =>
     have H := HA.out
     clear HA
     simp only [shutterlaw16_WipeUndoes.l0] at H
     by_cases b1 : u < (c.length : Int)
     ·rw [if_pos b1] at H
      have cX : decide (u < (c.length : Int)) = true := decide_eq_true b1
      clear b1
      by_cases cH : 0 ≤ u
      ·rw [if_pos cH] at H
       have e6 : decide (0 ≤ u) = true := decide_eq_true cH
       clear cH
       by_cases cI : 0 ≤ (rd c u)
       ·rw [if_pos cI] at H
        have e7 : decide (0 ≤ (rd c u)) = true := decide_eq_true cI
        clear cI
        by_cases cJ : (rd c u) < (q.length : Int)
        ·rw [if_pos cJ] at H
         have e8 : decide ((rd c u) < (q.length : Int)) = true := decide_eq_true cJ
         clear cJ
         by_cases bp : ((((rd_T35 q (rd c u)).f2) == 0) != ((wrap64 (u + 1)) == (c.length : Int))) = true
         ·rw [if_pos bp] at H
          have cY : ((((rd_T35 q (rd c u)).f2) == 0) != ((wrap64 (u + 1)) == (c.length : Int))) = true := bp
          (try (have cZ : decide ((((rd_T35 q (rd c u)).f2) == 0) = ((wrap64 (u + 1)) == (c.length : Int))) = false := by simpa using bp))
          (try (have c0 : ((((rd_T35 q (rd c u)).f2) == 0) == ((wrap64 (u + 1)) == (c.length : Int))) = false := by simpa using bp))
          (try (have g2 : ¬ ((((rd_T35 q (rd c u)).f2) == 0) = ((wrap64 (u + 1)) == (c.length : Int))) := by simpa using bp))
          clear bp
          obtain rfl := Option.some.inj H
          obtain ⟨hM, hQ, fq, _⟩ := Kd.Q_slice HO_5.out
          subst fq
          try go_wp2
          have A := Z (Kd.Q_drew HO_5.out)
          have B := Z (blk_drew a.out)
          have G := Z (below_drew1 HB.out)
          clear HO_5
          clear a
          clear HB
          have HO_5 := A
          have a := B
          have HB := G
          clear A B G
          have bd : 0 ≤ (u : Int) := od_
          have bf : u < (c.length : Int) := od_
          obtain ⟨b0, cE, aX⟩ := Kd.at_int (Kd.Q_reads' HO_5.out).2.2 u bd bf
          cases cE
          replace bd := eq_true bd
          replace bf := eq_true bf
          have be : 0 ≤ ((rd c u) : Int) := od_
          have bg : (rd c u) < (q.length : Int) := od_
          obtain ⟨O, cF, ai, aj, ak, al, am, an⟩ := at_T35 bb.out (rd c u) be bg
          have ba := an
          have a9 := am
          have a8 := al
          have a7 := ak
          have a6 := aj
          have a5 := ai
          cases cF
          replace ai := (HB.out.cell (bk_ w _ ai)).trans ai
          replace aj := (HB.out.cell (bk_ w _ aj)).trans aj
          replace ak := (HB.out.cell (bk_ w _ ak)).trans ak
          replace al := (HB.out.cell (bk_ w _ al)).trans al
          replace am := (HB.out.cell (bk_ w _ am)).trans am
          replace an := (HB.out.cell (bk_ w _ an)).trans an
          replace be := eq_true be
          replace bg := eq_true bg
          refine start_ (n := 16) (S := fun w' => w'.cell? ⟨l, 0, none⟩ = some (.int .i64 D) ∧ w'.cell? ⟨l, 1, none⟩ = some (.int .i64 E) ∧ w'.cell? ⟨l, 2, none⟩ = some (.slice (some O) q.length aK) ∧ w'.cell? ⟨l, 3, none⟩ = some (.int .i64 s) ∧ w'.cell? ⟨l, 4, none⟩ = some (.bool false) ∧ w'.cell? ⟨l, 5, none⟩ = some (.bool true) ∧ w'.cell? (b0.add (u).toNat) = some (.int .i64 (rd c u)) ∧ w'.cell? (O.add (((rd c u)).toNat * 6)) = some (.bool ((rd_T35 q (rd c u)).f0)) ∧ w'.cell? ⟨(O.add (((rd c u)).toNat * 6)).block, (O.add (((rd c u)).toNat * 6)).off + 1, none⟩ = some (.bool ((rd_T35 q (rd c u)).f1.f0)) ∧ w'.cell? ⟨(O.add (((rd c u)).toNat * 6)).block, (O.add (((rd c u)).toNat * 6)).off + 2, none⟩ = some (.bool ((rd_T35 q (rd c u)).f1.f1)) ∧ w'.cell? ⟨(O.add (((rd c u)).toNat * 6)).block, (O.add (((rd c u)).toNat * 6)).off + 3, none⟩ = some (.int .i64 ((rd_T35 q (rd c u)).f1.f2)) ∧ w'.cell? ⟨(O.add (((rd c u)).toNat * 6)).block, (O.add (((rd c u)).toNat * 6)).off + 4, none⟩ = some (.bool ((rd_T35 q (rd c u)).f1.f3)) ∧ w'.cell? ⟨(O.add (((rd c u)).toNat * 6)).block, (O.add (((rd c u)).toNat * 6)).off + 5, none⟩ = some (.int .u8 ((rd_T35 q (rd c u)).f2))) (ds := []) (bv 16 0) (by kernel_rfl) rfl rfl ⟨(blk_cell a.out 0).trans rfl, (blk_cell a.out 1).trans rfl, (blk_cell a.out 2).trans rfl, (blk_cell a.out 3).trans rfl, (blk_cell a.out 4).trans rfl, (blk_cell a.out 5).trans rfl, aX, ((HB.out.cell (bk_ w _ a5)).trans a5), ((HB.out.cell (bk_ w _ a6)).trans a6), ((HB.out.cell (bk_ w _ a7)).trans a7), ((HB.out.cell (bk_ w _ a8)).trans a8), ((HB.out.cell (bk_ w _ a9)).trans a9), ((HB.out.cell (bk_ w _ ba)).trans ba)⟩ (fun hHeld => ?_); refine with_tabW shutterlaw16_WipeUndoes.tab9 shutterlaw16_WipeUndoes.bits9 (fun HT_ HW_ => ?_)
          generalize wr.drew = h9 at HO_5 a HB aX ai aj ak al am an hHeld ⊢
          refine pure_ (i := 0) (N := some 35) (v := ?_) (a' := ?_) (bv 16 1) rfl rfl (any_of HT_.out (by kernel_rfl)) (fun _ _ _ h => h) (Or.inl ⟨by rfl, ?_⟩) ?_ ?_
          rotate_left
          ·intro w'
           go_simp
           with_reducible rfl
          rotate_left
          ·simp only [Act.put, sA, sB, sC, i64_w, i32_w]
           rfl
          refine pure_ (i := 2) (N := some 37) (v := ?_) (a' := ?_) (bv 16 5) rfl rfl (any_of HT_.out (by kernel_rfl)) (fun _ _ _ h => h) (Or.inl ⟨by rfl, ?_⟩) ?_ ?_
          rotate_left
          ·intro w'
           go_simp
           with_reducible rfl
          rotate_left
          ·simp only [Act.put, sA, sB, sC, i64_w, i32_w]
           rfl
          refine pure_ (i := 3) (N := some 38) (v := ?_) (a' := ?_) (bv 16 13) rfl rfl (any_of HT_.out (by kernel_rfl)) (fun _ _ _ h => h) (Or.inl ⟨by rfl, ?_⟩) ?_ ?_
          rotate_left
          ·intro w'
           go_simp
           with_reducible rfl
          rotate_left
          ·simp only [Act.put, sA, sB, sC, i64_w, i32_w]
           rfl
          refine pure_ (i := 4) (N := some 39) (v := ?_) (a' := ?_) (bv 16 29) rfl rfl (any_of HT_.out (by kernel_rfl)) (fun _ _ _ h => h) (Or.inl ⟨by rfl, ?_⟩) ?_ ?_
          rotate_left
          ·intro w'
           go_simp
           with_reducible rfl
          rotate_left
          ·simp only [Act.put, sA, sB, sC, i64_w, i32_w]
           rfl
          refine pure_ (i := 10) (N := some 45) (v := ?_) (a' := ?_) (bv 16 1053) rfl rfl (any_of HT_.out (by kernel_rfl)) (fun _ _ _ h => h) (Or.inl ⟨by rfl, ?_⟩) ?_ ?_
          rotate_left
          ·intro w'
           go_simp
           with_reducible rfl
          rotate_left
          ·simp only [Act.put, sA, sB, sC, i64_w, i32_w]
           rfl
          refine pure_ (i := 11) (N := some 46) (v := ?_) (a' := ?_) (bv 16 3101) rfl rfl (any_of HT_.out (by kernel_rfl)) (fun _ _ _ h => h) (Or.inl ⟨by rfl, ?_⟩) ?_ ?_
          rotate_left
          ·intro w'
           go_simp
           with_reducible rfl
          rotate_left
          ·simp only [Act.put, sA, sB, sC, i64_w, i32_w]
           rfl
          refine pure_ (i := 12) (N := some 47) (v := ?_) (a' := ?_) (bv 16 7197) rfl rfl (any_of HT_.out (by kernel_rfl)) (fun _ _ _ h => h) (Or.inl ⟨by rfl, ?_⟩) ?_ ?_
          rotate_left
          ·intro w'
           go_simp
           with_reducible rfl
          rotate_left
          ·simp only [Act.put, sA, sB, sC, i64_w, i32_w]
           rfl
          refine pure_ (i := 13) (N := some 48) (v := ?_) (a' := ?_) (bv 16 15389) rfl rfl (any_of HT_.out (by kernel_rfl)) (fun _ _ _ h => h) (Or.inl ⟨by rfl, ?_⟩) ?_ ?_
          rotate_left
          ·intro w'
           go_simp
           with_reducible rfl
          rotate_left
          ·simp only [Act.put, sA, sB, sC, i64_w, i32_w]
           rfl
          refine pure_ (i := 14) (N := some 49) (v := ?_) (a' := ?_) (bv 16 31773) rfl rfl (any_of HT_.out (by kernel_rfl)) (fun _ _ _ h => h) (Or.inl ⟨by rfl, ?_⟩) ?_ ?_
          rotate_left
          ·intro w'
           go_simp
           with_reducible rfl
          rotate_left
          ·simp only [Act.put, sA, sB, sC, i64_w, i32_w]
           rfl
          refine take_ (i := 1) (N := some 36) (v := ?_) (a' := ?_) (bv 16 31775) rfl rfl (take_ofW HT_.out HW_.out (by kernel_rfl)) (fun _ _ _ h => h) (Or.inl ⟨by rfl, ?_⟩) hHeld ?_ ?_
          rotate_left
          ·rintro w' ⟨s0, s1, s2, s3, s4, s5, s6, s7, s8, s9, bN, bO, cM⟩
           go_simp
           with_reducible rfl
          rotate_left
          ·simp only [Act.put, sA, sB, sC, i64_w, i32_w]
           rfl
          refine take_ (i := 5) (N := some 40) (v := ?_) (a' := ?_) (bv 16 31807) rfl rfl (take_ofW HT_.out HW_.out (by kernel_rfl)) (fun _ _ _ h => h) (Or.inl ⟨by rfl, ?_⟩) hHeld ?_ ?_
          rotate_left
          ·rintro w' ⟨s0, s1, s2, s3, s4, s5, s6, s7, s8, s9, bN, bO, cM⟩
           go_simp
           with_reducible rfl
          rotate_left
          ·simp only [Act.put, sA, sB, sC, i64_w, i32_w]
           rfl
          refine pure_ (i := 6) (N := some 41) (v := ?_) (a' := ?_) (bv 16 31871) rfl rfl (any_of HT_.out (by kernel_rfl)) (fun _ _ _ h => h) (Or.inl ⟨by rfl, ?_⟩) ?_ ?_
          rotate_left
          ·intro w'
           go_simp
           with_reducible rfl
          rotate_left
          ·simp only [Act.put, sA, sB, sC, i64_w, i32_w]
           rfl
          refine pure_ (i := 7) (N := some 42) (v := ?_) (a' := ?_) (bv 16 31999) rfl rfl (any_of HT_.out (by kernel_rfl)) (fun _ _ _ h => h) (Or.inl ⟨by rfl, ?_⟩) ?_ ?_
          rotate_left
          ·intro w'
           go_simp
           with_reducible rfl
          rotate_left
          ·simp only [Act.put, sA, sB, sC, i64_w, i32_w]
           rfl
          refine take_ (i := 8) (N := some 43) (v := ?_) (a' := ?_) (bv 16 32255) rfl rfl (take_ofW HT_.out HW_.out (by kernel_rfl)) (fun _ _ _ h => h) (Or.inl ⟨by rfl, ?_⟩) hHeld ?_ ?_
          rotate_left
          ·rintro w' ⟨s0, s1, s2, s3, s4, s5, s6, s7, s8, s9, bN, bO, cM⟩
           go_simp
           with_reducible rfl
          rotate_left
          ·simp only [Act.put, sA, sB, sC, i64_w, i32_w]
           rfl
          refine pure_ (i := 9) (N := some 44) (v := ?_) (a' := ?_) (bv 16 32767) rfl rfl (any_of HT_.out (by kernel_rfl)) (fun _ _ _ h => h) (Or.inl ⟨by rfl, ?_⟩) ?_ ?_
          rotate_left
          ·intro w'
           go_simp
           with_reducible rfl
          rotate_left
          ·simp only [Act.put, sA, sB, sC, i64_w, i32_w]
           rfl
          refine pure_ (i := 15) (N := some 50) (v := ?_) (a' := ?_) (bv 16 65535) rfl rfl (any_of HT_.out (by kernel_rfl)) (fun _ _ _ h => h) (Or.inl ⟨by rfl, ?_⟩) ?_ ?_
          rotate_left
          ·intro w'
           go_simp
           with_reducible rfl
          rotate_left
          ·simp only [Act.put, sA, sB, sC, i64_w, i32_w]
           rfl
          refine done_ (done_of HT_.out (by kernel_rfl)) ?_
          try go_wp2
          go_ret
          exact ⟨by first | rfl | (simp [errW_none, errW_some] <;> rfl) | (simp [*, errW_none, errW_some] <;> rfl), bl_⟩
         ·rw [if_neg bp] at H
          have cY : ((((rd_T35 q (rd c u)).f2) == 0) != ((wrap64 (u + 1)) == (c.length : Int))) = false := by simpa using bp
          (try (have cZ : decide ((((rd_T35 q (rd c u)).f2) == 0) = ((wrap64 (u + 1)) == (c.length : Int))) = true := by simpa using bp))
          (try (have c0 : ((((rd_T35 q (rd c u)).f2) == 0) == ((wrap64 (u + 1)) == (c.length : Int))) = true := by simpa using bp))
          clear bp
          have H' := Z H
          clear H
          obtain ⟨hN, hR, fr, _⟩ := Kd.Q_slice HO_5.out
          subst fr
          try go_wp2
          have A := Z (Kd.Q_drew HO_5.out)
          have B := Z (blk_drew a.out)
          have G := Z (below_drew1 HB.out)
          clear HO_5
          clear a
          clear HB
          have HO_5 := A
          have a := B
          have HB := G
          clear A B G
          have bd : 0 ≤ (u : Int) := od_
          have bf : u < (c.length : Int) := od_
          obtain ⟨b0, cE, aX⟩ := Kd.at_int (Kd.Q_reads' HO_5.out).2.2 u bd bf
          cases cE
          replace bd := eq_true bd
          replace bf := eq_true bf
          have be : 0 ≤ ((rd c u) : Int) := od_
          have bg : (rd c u) < (q.length : Int) := od_
          obtain ⟨O, cF, ai, aj, ak, al, am, an⟩ := at_T35 bb.out (rd c u) be bg
          have ba := an
          have a9 := am
          have a8 := al
          have a7 := ak
          have a6 := aj
          have a5 := ai
          cases cF
          replace ai := (HB.out.cell (bk_ w _ ai)).trans ai
          replace aj := (HB.out.cell (bk_ w _ aj)).trans aj
          replace ak := (HB.out.cell (bk_ w _ ak)).trans ak
          replace al := (HB.out.cell (bk_ w _ al)).trans al
          replace am := (HB.out.cell (bk_ w _ am)).trans am
          replace an := (HB.out.cell (bk_ w _ an)).trans an
          replace be := eq_true be
          replace bg := eq_true bg
          refine start_ (n := 16) (S := fun w' => w'.cell? ⟨l, 0, none⟩ = some (.int .i64 D) ∧ w'.cell? ⟨l, 1, none⟩ = some (.int .i64 E) ∧ w'.cell? ⟨l, 2, none⟩ = some (.slice (some O) q.length aK) ∧ w'.cell? ⟨l, 3, none⟩ = some (.int .i64 s) ∧ w'.cell? ⟨l, 4, none⟩ = some (.bool false) ∧ w'.cell? ⟨l, 5, none⟩ = some (.bool true) ∧ w'.cell? (b0.add (u).toNat) = some (.int .i64 (rd c u)) ∧ w'.cell? (O.add (((rd c u)).toNat * 6)) = some (.bool ((rd_T35 q (rd c u)).f0)) ∧ w'.cell? ⟨(O.add (((rd c u)).toNat * 6)).block, (O.add (((rd c u)).toNat * 6)).off + 1, none⟩ = some (.bool ((rd_T35 q (rd c u)).f1.f0)) ∧ w'.cell? ⟨(O.add (((rd c u)).toNat * 6)).block, (O.add (((rd c u)).toNat * 6)).off + 2, none⟩ = some (.bool ((rd_T35 q (rd c u)).f1.f1)) ∧ w'.cell? ⟨(O.add (((rd c u)).toNat * 6)).block, (O.add (((rd c u)).toNat * 6)).off + 3, none⟩ = some (.int .i64 ((rd_T35 q (rd c u)).f1.f2)) ∧ w'.cell? ⟨(O.add (((rd c u)).toNat * 6)).block, (O.add (((rd c u)).toNat * 6)).off + 4, none⟩ = some (.bool ((rd_T35 q (rd c u)).f1.f3)) ∧ w'.cell? ⟨(O.add (((rd c u)).toNat * 6)).block, (O.add (((rd c u)).toNat * 6)).off + 5, none⟩ = some (.int .u8 ((rd_T35 q (rd c u)).f2))) (ds := []) (bv 16 0) (by kernel_rfl) rfl rfl ⟨(blk_cell a.out 0).trans rfl, (blk_cell a.out 1).trans rfl, (blk_cell a.out 2).trans rfl, (blk_cell a.out 3).trans rfl, (blk_cell a.out 4).trans rfl, (blk_cell a.out 5).trans rfl, aX, ((HB.out.cell (bk_ w _ a5)).trans a5), ((HB.out.cell (bk_ w _ a6)).trans a6), ((HB.out.cell (bk_ w _ a7)).trans a7), ((HB.out.cell (bk_ w _ a8)).trans a8), ((HB.out.cell (bk_ w _ a9)).trans a9), ((HB.out.cell (bk_ w _ ba)).trans ba)⟩ (fun hHeld => ?_); refine with_tabW shutterlaw16_WipeUndoes.tab9 shutterlaw16_WipeUndoes.bits9 (fun HT_ HW_ => ?_)
          generalize wr.drew = ia at HO_5 a HB aX ai aj ak al am an hHeld ⊢
          refine pure_ (i := 0) (N := some 35) (v := ?_) (a' := ?_) (bv 16 1) rfl rfl (any_of HT_.out (by kernel_rfl)) (fun _ _ _ h => h) (Or.inl ⟨by rfl, ?_⟩) ?_ ?_
          rotate_left
          ·intro w'
           go_simp
           with_reducible rfl
          rotate_left
          ·simp only [Act.put, sA, sB, sC, i64_w, i32_w]
           rfl
          refine pure_ (i := 2) (N := some 37) (v := ?_) (a' := ?_) (bv 16 5) rfl rfl (any_of HT_.out (by kernel_rfl)) (fun _ _ _ h => h) (Or.inl ⟨by rfl, ?_⟩) ?_ ?_
          rotate_left
          ·intro w'
           go_simp
           with_reducible rfl
          rotate_left
          ·simp only [Act.put, sA, sB, sC, i64_w, i32_w]
           rfl
          refine pure_ (i := 3) (N := some 38) (v := ?_) (a' := ?_) (bv 16 13) rfl rfl (any_of HT_.out (by kernel_rfl)) (fun _ _ _ h => h) (Or.inl ⟨by rfl, ?_⟩) ?_ ?_
          rotate_left
          ·intro w'
           go_simp
           with_reducible rfl
          rotate_left
          ·simp only [Act.put, sA, sB, sC, i64_w, i32_w]
           rfl
          refine pure_ (i := 4) (N := some 39) (v := ?_) (a' := ?_) (bv 16 29) rfl rfl (any_of HT_.out (by kernel_rfl)) (fun _ _ _ h => h) (Or.inl ⟨by rfl, ?_⟩) ?_ ?_
          rotate_left
          ·intro w'
           go_simp
           with_reducible rfl
          rotate_left
          ·simp only [Act.put, sA, sB, sC, i64_w, i32_w]
           rfl
          refine pure_ (i := 10) (N := some 45) (v := ?_) (a' := ?_) (bv 16 1053) rfl rfl (any_of HT_.out (by kernel_rfl)) (fun _ _ _ h => h) (Or.inl ⟨by rfl, ?_⟩) ?_ ?_
          rotate_left
          ·intro w'
           go_simp
           with_reducible rfl
          rotate_left
          ·simp only [Act.put, sA, sB, sC, i64_w, i32_w]
           rfl
          refine pure_ (i := 11) (N := some 46) (v := ?_) (a' := ?_) (bv 16 3101) rfl rfl (any_of HT_.out (by kernel_rfl)) (fun _ _ _ h => h) (Or.inl ⟨by rfl, ?_⟩) ?_ ?_
          rotate_left
          ·intro w'
           go_simp
           with_reducible rfl
          rotate_left
          ·simp only [Act.put, sA, sB, sC, i64_w, i32_w]
           rfl
          refine pure_ (i := 12) (N := some 47) (v := ?_) (a' := ?_) (bv 16 7197) rfl rfl (any_of HT_.out (by kernel_rfl)) (fun _ _ _ h => h) (Or.inl ⟨by rfl, ?_⟩) ?_ ?_
          rotate_left
          ·intro w'
           go_simp
           with_reducible rfl
          rotate_left
          ·simp only [Act.put, sA, sB, sC, i64_w, i32_w]
           rfl
          refine pure_ (i := 13) (N := some 48) (v := ?_) (a' := ?_) (bv 16 15389) rfl rfl (any_of HT_.out (by kernel_rfl)) (fun _ _ _ h => h) (Or.inl ⟨by rfl, ?_⟩) ?_ ?_
          rotate_left
          ·intro w'
           go_simp
           with_reducible rfl
          rotate_left
          ·simp only [Act.put, sA, sB, sC, i64_w, i32_w]
           rfl
          refine pure_ (i := 14) (N := some 49) (v := ?_) (a' := ?_) (bv 16 31773) rfl rfl (any_of HT_.out (by kernel_rfl)) (fun _ _ _ h => h) (Or.inl ⟨by rfl, ?_⟩) ?_ ?_
          rotate_left
          ·intro w'
           go_simp
           with_reducible rfl
          rotate_left
          ·simp only [Act.put, sA, sB, sC, i64_w, i32_w]
           rfl
          refine take_ (i := 1) (N := some 36) (v := ?_) (a' := ?_) (bv 16 31775) rfl rfl (take_ofW HT_.out HW_.out (by kernel_rfl)) (fun _ _ _ h => h) (Or.inl ⟨by rfl, ?_⟩) hHeld ?_ ?_
          rotate_left
          ·rintro w' ⟨s0, s1, s2, s3, s4, s5, s6, s7, s8, s9, bN, bO, cM⟩
           go_simp
           with_reducible rfl
          rotate_left
          ·simp only [Act.put, sA, sB, sC, i64_w, i32_w]
           rfl
          refine take_ (i := 5) (N := some 40) (v := ?_) (a' := ?_) (bv 16 31807) rfl rfl (take_ofW HT_.out HW_.out (by kernel_rfl)) (fun _ _ _ h => h) (Or.inl ⟨by rfl, ?_⟩) hHeld ?_ ?_
          rotate_left
          ·rintro w' ⟨s0, s1, s2, s3, s4, s5, s6, s7, s8, s9, bN, bO, cM⟩
           go_simp
           with_reducible rfl
          rotate_left
          ·simp only [Act.put, sA, sB, sC, i64_w, i32_w]
           rfl
          refine pure_ (i := 6) (N := some 41) (v := ?_) (a' := ?_) (bv 16 31871) rfl rfl (any_of HT_.out (by kernel_rfl)) (fun _ _ _ h => h) (Or.inl ⟨by rfl, ?_⟩) ?_ ?_
          rotate_left
          ·intro w'
           go_simp
           with_reducible rfl
          rotate_left
          ·simp only [Act.put, sA, sB, sC, i64_w, i32_w]
           rfl
          refine pure_ (i := 7) (N := some 42) (v := ?_) (a' := ?_) (bv 16 31999) rfl rfl (any_of HT_.out (by kernel_rfl)) (fun _ _ _ h => h) (Or.inl ⟨by rfl, ?_⟩) ?_ ?_
          rotate_left
          ·intro w'
           go_simp
           with_reducible rfl
          rotate_left
          ·simp only [Act.put, sA, sB, sC, i64_w, i32_w]
           rfl
          refine take_ (i := 8) (N := some 43) (v := ?_) (a' := ?_) (bv 16 32255) rfl rfl (take_ofW HT_.out HW_.out (by kernel_rfl)) (fun _ _ _ h => h) (Or.inl ⟨by rfl, ?_⟩) hHeld ?_ ?_
          rotate_left
          ·rintro w' ⟨s0, s1, s2, s3, s4, s5, s6, s7, s8, s9, bN, bO, cM⟩
           go_simp
           with_reducible rfl
          rotate_left
          ·simp only [Act.put, sA, sB, sC, i64_w, i32_w]
           rfl
          refine pure_ (i := 9) (N := some 44) (v := ?_) (a' := ?_) (bv 16 32767) rfl rfl (any_of HT_.out (by kernel_rfl)) (fun _ _ _ h => h) (Or.inl ⟨by rfl, ?_⟩) ?_ ?_
          rotate_left
          ·intro w'
           go_simp
           with_reducible rfl
          rotate_left
          ·simp only [Act.put, sA, sB, sC, i64_w, i32_w]
           rfl
          refine pure_ (i := 15) (N := some 50) (v := ?_) (a' := ?_) (bv 16 65535) rfl rfl (any_of HT_.out (by kernel_rfl)) (fun _ _ _ h => h) (Or.inl ⟨by rfl, ?_⟩) ?_ ?_
          rotate_left
          ·intro w'
           go_simp
           with_reducible rfl
          rotate_left
          ·simp only [Act.put, sA, sB, sC, i64_w, i32_w]
           rfl
          refine done_ (done_of HT_.out (by kernel_rfl)) ?_
          try go_wp2
          go_roundg k1
          case measure => have := cW.out; omega
          case rel => exact ⟨(wrap64 (u + 1)), (by first | rfl | (simp; done) | (simp [*]; done)), H', ⟨by have := cW.out; omega⟩, ⟨by (with_reducible repeat (first | apply Kd.Q_alloc | apply Kd.Q_drewN | apply Kd.Q_drew)); exact HO_5.out⟩, ⟨by (with_reducible repeat apply pK); exact a.out⟩, ⟨bl_⟩⟩
        ·rw [if_neg cJ] at H
         exact absurd H (by simp)
       ·rw [if_neg cI] at H
        exact absurd H (by simp)
      ·rw [if_neg cH] at H
       exact absurd H (by simp)
     ·rw [if_neg b1] at H
      have cX : decide (u < (c.length : Int)) = false := decide_eq_false b1
      clear b1
      replace H := Option.bind_eq_some_iff.mp H
      obtain ⟨⟨ar, au, R, bx, av, aw, dd, bI⟩, eQ, H⟩ := H
      replace H : (if dd.isNone = true then ((wipe_Do.f k1 ar au R s av aw 12).bind fun M => ((wipe_Do.f k1 ar au R s av aw 13).bind fun y => (if M.2.2.2.2.2.2.1.isNone = true then (if y.2.2.2.2.2.2.1.isNone = true then (shutterlaw16_WipeUndoes.j1 k1 a1 false D E q s false true M.1 M.2.1 M.2.2.1 M.2.2.2.1 M.2.2.2.2.1 M.2.2.2.2.2.1 y.1 y.2.1 y.2.2.1 y.2.2.2.1 y.2.2.2.2.1 y.2.2.2.2.2.1) else (shutterlaw16_WipeUndoes.j1 k1 a1 true D E q s false true M.1 M.2.1 M.2.2.1 M.2.2.2.1 M.2.2.2.2.1 M.2.2.2.2.2.1 y.1 y.2.1 y.2.2.1 y.2.2.2.1 y.2.2.2.2.1 y.2.2.2.2.2.1)) else (none)))) else (some true)) = some r := H
      have fg := Z eQ
      clear eQ
      rcases dd with _ | cG
      ·have H1 : ((wipe_Do.f k1 ar au R s av aw 12).bind fun M => ((wipe_Do.f k1 ar au R s av aw 13).bind fun y => (if M.2.2.2.2.2.2.1.isNone = true then (if y.2.2.2.2.2.2.1.isNone = true then (shutterlaw16_WipeUndoes.j1 k1 a1 false D E q s false true M.1 M.2.1 M.2.2.1 M.2.2.2.1 M.2.2.2.2.1 M.2.2.2.2.2.1 y.1 y.2.1 y.2.2.1 y.2.2.2.1 y.2.2.2.2.1 y.2.2.2.2.2.1) else (shutterlaw16_WipeUndoes.j1 k1 a1 true D E q s false true M.1 M.2.1 M.2.2.1 M.2.2.2.1 M.2.2.2.2.1 M.2.2.2.2.2.1 y.1 y.2.1 y.2.2.1 y.2.2.2.1 y.2.2.2.2.1 y.2.2.2.2.2.1)) else (none)))) = some r := by rw [if_pos (show (none : Option Er).isNone = true by rfl)] at H; exact H
       clear H
       have H := H1
       clear H1
       try simp only [errW_none, errW_some]
       replace H := Option.bind_eq_some_iff.mp H
       obtain ⟨⟨ab, ac, T, ad, ae, af, bQ, de⟩, eR, H⟩ := H
       replace H : ((wipe_Do.f k1 ar au R s av aw 13).bind fun y => (if bQ.isNone = true then (if y.2.2.2.2.2.2.1.isNone = true then (shutterlaw16_WipeUndoes.j1 k1 a1 false D E q s false true ab ac T ad ae af y.1 y.2.1 y.2.2.1 y.2.2.2.1 y.2.2.2.2.1 y.2.2.2.2.2.1) else (shutterlaw16_WipeUndoes.j1 k1 a1 true D E q s false true ab ac T ad ae af y.1 y.2.1 y.2.2.1 y.2.2.2.1 y.2.2.2.2.1 y.2.2.2.2.2.1)) else (none))) = some r := H
       have gI := Z eR
       clear eR
       replace H := Option.bind_eq_some_iff.mp H
       obtain ⟨⟨ax, ay, Y, az, aA, aB, bR, fa⟩, eS, H⟩ := H
       replace H : (if bQ.isNone = true then (if bR.isNone = true then (shutterlaw16_WipeUndoes.j1 k1 a1 false D E q s false true ab ac T ad ae af ax ay Y az aA aB) else (shutterlaw16_WipeUndoes.j1 k1 a1 true D E q s false true ab ac T ad ae af ax ay Y az aA aB)) else (none)) = some r := H
       have gJ := Z eS
       clear eS
       have cV := Z H
       clear H
       obtain ⟨aL, aN, fs, _⟩ := Kd.Q_slice HO_5.out
       subst fs
       obtain ⟨dg, dh, di, dj, dk, dl, d4, d5, d6, d7, d8, d9⟩ := cells6 a.out
       go_upto_region 17 with (first | ((with_reducible refine gate_callee (f := 31) rfl ?_); refine goesL_ (some 54) rfl rfl Tryd.func31 (by kernel_rfl) rfl #[.agg #[.int .i64 D, .int .i64 E, .slice aR q.length aK, .int .i64 s, .bool false, .bool true], .int .u8 a1] rfl ag_ ?_; (with_reducible refine (edit_Type.calls k1 D E (fun k_ => k_ < w.heap.size) _ _ q s false true a1 ar au R bx av aw none bI _ ?side1 fg.out).mono ?_); (case side1 => exact Kd.V_mk bw.out (Kd.F_below (Kd.C_F k35_heap bb.out) bl_)); rintro e ib ⟨fd, bY, rfl, aQ, bc, hb⟩; refine ⟨_, rfl, ?_⟩; have A := Z (Kd.Q_below (by (with_reducible repeat (first | apply Kd.Q_alloc | apply Kd.Q_drewN | apply Kd.Q_drew)); exact HO_5.out) hb); have B := Z (Kd.V_lower (Kd.V_mono (ok' := fun k_ => some k_ ≠ (.slice aL c.length aN : Value).ownBlock ∧ k_ ≠ l) aQ (fun k_ hk_ => ⟨Or.elim hk_ (fun hs_ => fun e_ => Nat.not_le.2 hs_ (Kd.Q_base HO_5.out k_ e_.symm)) (fun hn_ => (Kd.fresh' (Kd.Q_lt (by (with_reducible repeat (first | apply Kd.Q_alloc | apply Kd.Q_drewN | apply Kd.Q_drew)); exact HO_5.out)) k_ hn_)), Or.elim hk_ (fun hs_ => fun e_ => Nat.not_le.2 hs_ (by rw [e_]; exact br.out)) (fun hn_ => (fb a.out k_ hn_))⟩)) (below_size bl_)); have G := Z (Kd.V_lower (Kd.V_mono (ok' := fun k_ => some k_ ≠ (.slice aL c.length aN : Value).ownBlock ∧ k_ ≠ l) bc (fun k_ hk_ => ⟨Or.elim hk_ (fun hs_ => fun e_ => Nat.not_le.2 hs_ (Kd.Q_base HO_5.out k_ e_.symm)) (fun hn_ => (Kd.fresh' (Kd.Q_lt (by (with_reducible repeat (first | apply Kd.Q_alloc | apply Kd.Q_drewN | apply Kd.Q_drew)); exact HO_5.out)) k_ hn_)), Or.elim hk_ (fun hs_ => fun e_ => Nat.not_le.2 hs_ (by rw [e_]; exact br.out)) (fun hn_ => (fb a.out k_ hn_))⟩)) (below_size bl_)); have L := Z (kb a.out hb); have P := Z (below_step bl_ hb); clear HO_5 a HB; have HO_5 := A; have F := B; have J := G; have a := L; have HB := P; clear A B G L P; (try clear hb); (try clear bq); (try clear hk); (try clear hi); (try clear aQ); (try clear bc); (try simp only [errW_none, errW_some])) | ((with_reducible refine gate_dst (N := 7) rfl ?_); refine box_event ?hg (N := 7) ?hd (cs := #[.int .i64 0, .int .i64 0, .slice none 0 0, .int .i64 0, .bool false, .bool false]) (t := 24) ?hr ?_; (case hd => rfl); (case hg => rfl); (case hr => first | (go_simp; done) | (go_simp; rfl)); intro x hg gZ hbox hb; have A := Z (Kd.Q_below (by (with_reducible repeat (first | apply Kd.Q_alloc | apply Kd.Q_drewN | apply Kd.Q_drew)); exact HO_5.out) hb); have B := Z (ve F.out hg hb); have G := Z (ve J.out hg hb); have L := Z (kb a.out hb); have P := Z (below_step bl_ hb); have U := Z (hbox); have W := Z ((le_new hg (below_size bl_) : w.heap.size ≤ x)); have X := Z ((le_new hg (below_size bl_) : w.heap.size ≤ x)); have aa := Z (nl a.out hg); have ap := Z (ng a.out hg); clear HO_5 F J a HB; have HO_5 := A; have F := B; have J := G; have a := L; have HB := P; have d := U; have e0 := W; have eZ := X; have aT := aa; have bk := ap; clear A B G L P U W X aa ap; clear hb hbox hg; have g3 := bk.out; have hm := aT.out; obtain ⟨dm, dn, dp, dq, dr, dt, ea, eb, ec, ed, ee, ef⟩ := cells6 d.out; obtain ⟨aU, aV, ft⟩ := Kd.V_slice F.out; subst ft) | ((with_reducible refine gate_store (t := 24) (p := 7) rfl ?_); refine store_event (t := 24) (p := 7) (v := ?vo_w34) (w1 := ((((((gZ.setCell ⟨x, 0, none⟩ (.int .i64 ar)).setCell ⟨x, 1, none⟩ (.int .i64 au)).setCell ⟨x, 2, none⟩ (.slice aU R.length aV)).setCell ⟨x, 3, none⟩ (.int .i64 bx)).setCell ⟨x, 4, none⟩ (.bool av)).setCell ⟨x, 5, none⟩ (.bool aw))) ?hg ?ho ?hn ?hr ?_; (case ho => rfl); (case hg => rfl); (case hn => rfl); (case hr => first | (go_simp; done) | (go_simp; rfl)); intro b7 hw; have A : Aside0 (Kd.Q (Kd.int .i64) 3 b7 w.heap.size (fun _ => True) (.slice aL c.length aN) c) := ⟨(by rw [hw]; exact (by (with_reducible repeat (first | apply Kd.Q_alloc | apply Kd.Q_drewN | apply Kd.Q_drew)); exact Kd.Q_mono (Kd.Q_far (p := ⟨x, 5, none⟩) (Kd.Q_far (p := ⟨x, 4, none⟩) (Kd.Q_far (p := ⟨x, 3, none⟩) (Kd.Q_far (p := ⟨x, 2, none⟩) (Kd.Q_far (p := ⟨x, 1, none⟩) (Kd.Q_far (p := ⟨x, 0, none⟩) (Kd.Q_types HO_5.out d.out (by decide)) (fun _ hk => hk.2) (.int .i64 ar)) (fun _ hk => hk.2) (.int .i64 au)) (fun _ hk => hk.2) (.slice aU R.length aV)) (fun _ hk => hk.2) (.int .i64 bx)) (fun _ hk => hk.2) (.bool av)) (fun _ hk => hk.2) (.bool aw)) (fun _ hk => trivial)))⟩; have B : Aside0 (Kd.V k35 35 b7 w.heap.size (fun k_ => some k_ ≠ (.slice aL c.length aN : Value).ownBlock ∧ k_ ≠ l ∧ k_ ≠ x) (.slice aU R.length aV) R) := ⟨(by rw [hw]; exact (by (with_reducible repeat apply pV); exact V_off F.out (fun k_ hk => hk.2) off2_ (fun _ hk => ⟨hk.1.1, ⟨hk.1.2, hk.2⟩⟩)))⟩; have G : Aside0 (Kd.V k164 164 b7 w.heap.size (fun k_ => some k_ ≠ (.slice aL c.length aN : Value).ownBlock ∧ k_ ≠ l ∧ k_ ≠ x) bY bI) := ⟨(by rw [hw]; exact (by (with_reducible repeat apply pV); exact V_off J.out (fun k_ hk => hk.2) off2_ (fun _ hk => ⟨hk.1.1, ⟨hk.1.2, hk.2⟩⟩)))⟩; have L : Aside0 (b7.heap[l]? = some (.cells #[.int .i64 D, .int .i64 E, .slice aR q.length aK, .int .i64 s, .bool false, .bool true] 24 (0, 0))) := ⟨(by rw [hw]; exact (by (with_reducible repeat apply pK); exact blk_off a.out aT.out off2_))⟩; have P : Aside0 (b7.heap[x]? = some (.cells #[.int .i64 ar, .int .i64 au, .slice aU R.length aV, .int .i64 bx, .bool av, .bool aw] 24 (0, 0))) := ⟨by rw [hw]; exact (put6 d.out)⟩; have U : Aside0 (Below w.heap.size w b7) := ⟨by rw [hw]; exact bl_⟩; clear hw HO_5 F J a d HB; have HO_5 := A; have F := B; have J := G; have a := L; have d := P; have HB := U; clear A B G L P U; obtain ⟨du, dv, dw, dx, dy, dz, eg, eh, ei, ej, ek, el⟩ := cells6 a.out; obtain ⟨dA, dB, dC, dD, dE, dF, em, en, eo, ep, eq, er⟩ := cells6 d.out) | ((with_reducible refine gate_store (t := 3) (p := 61) rfl ?_); refine store_event (t := 3) (p := 61) (v := ?vo_w37) (w1 := (b7.setCell ⟨x, 3, none⟩ (.int .i64 s))) ?hg ?ho ?hn ?hr ?_; (case ho => rfl); (case hg => rfl); (case hn => rfl); (case hr => first | (go_simp; done) | (go_simp; rfl)); intro cD hw; have A : Aside0 (Kd.Q (Kd.int .i64) 3 cD w.heap.size (fun _ => True) (.slice aL c.length aN) c) := ⟨(by rw [hw]; exact (by (with_reducible repeat (first | apply Kd.Q_alloc | apply Kd.Q_drewN | apply Kd.Q_drew)); exact Kd.Q_mono (Kd.Q_far (p := ⟨x, 3, none⟩) (Kd.Q_types HO_5.out d.out (by decide)) (fun _ hk => hk.2) (.int .i64 s)) (fun _ hk => trivial)))⟩; have B : Aside0 (Kd.V k35 35 cD w.heap.size (fun k_ => some k_ ≠ (.slice aL c.length aN : Value).ownBlock ∧ k_ ≠ l ∧ k_ ≠ x) (.slice aU R.length aV) R) := ⟨(by rw [hw]; exact (by (with_reducible repeat apply pV); exact V_off F.out (fun k_ hk => hk.2.2) off2_ (fun _ hk => ⟨hk.1, ⟨hk.2.1, hk.2.2⟩⟩)))⟩; have G : Aside0 (Kd.V k164 164 cD w.heap.size (fun k_ => some k_ ≠ (.slice aL c.length aN : Value).ownBlock ∧ k_ ≠ l ∧ k_ ≠ x) bY bI) := ⟨(by rw [hw]; exact (by (with_reducible repeat apply pV); exact V_off J.out (fun k_ hk => hk.2.2) off2_ (fun _ hk => ⟨hk.1, ⟨hk.2.1, hk.2.2⟩⟩)))⟩; have L : Aside0 (cD.heap[l]? = some (.cells #[.int .i64 D, .int .i64 E, .slice aR q.length aK, .int .i64 s, .bool false, .bool true] 24 (0, 0))) := ⟨(by rw [hw]; exact (by (with_reducible repeat apply pK); exact blk_off a.out aT.out off2_))⟩; have P : Aside0 (cD.heap[x]? = some (.cells #[.int .i64 ar, .int .i64 au, .slice aU R.length aV, .int .i64 s, .bool av, .bool aw] 24 (0, 0))) := ⟨(by rw [hw]; exact (by (with_reducible repeat apply pK); refine blk_put (cs := #[.int .i64 ar, .int .i64 au, .slice aU R.length aV, .int .i64 bx, .bool av, .bool aw]) ?_ 3 _ rfl; (with_reducible repeat apply pK); exact d.out))⟩; have U : Aside0 (Below w.heap.size w cD) := ⟨by rw [hw]; exact bl_⟩; clear hw HO_5 F J a d HB; have HO_5 := A; have F := B; have J := G; have a := L; have d := P; have HB := U; clear A B G L P U; obtain ⟨dG, dH, dI, dJ, dK, dL, es, et, eu, ev, ew, ex⟩ := cells6 d.out) | ((with_reducible refine gate_callee (f := 19) rfl ?_); refine goesL_ (some 64) rfl rfl Tryd.func19 (by kernel_rfl) rfl #[.agg #[.int .i64 ar, .int .i64 au, .slice aU R.length aV, .int .i64 s, .bool av, .bool aw], .int .i64 12] rfl ag_ ?_; (with_reducible refine (wipe_Do.calls k1 ar au (fun k_ => (some k_ ≠ (.slice aL c.length aN : Value).ownBlock ∧ (k_ ≠ l ∧ k_ ≠ x))) _ _ R s av aw 12 ab ac T ad ae af bQ de _ ?side1 gI.out).mono ?_); (case side1 => exact F.out); rintro e ic ⟨hE, fe, rfl, aQ, bc, hb⟩; refine ⟨_, rfl, ?_⟩; have A := Z (Kd.Q_below (by (with_reducible repeat (first | apply Kd.Q_alloc | apply Kd.Q_drewN | apply Kd.Q_drew)); exact HO_5.out) hb); have B := Z (vb F.out hb); have G := Z (vb J.out hb); have L := Z (Kd.V_lower (Kd.V_mono (ok' := fun k_ => some k_ ≠ (.slice aL c.length aN : Value).ownBlock ∧ k_ ≠ l ∧ k_ ≠ x) aQ (fun k_ hk_ => ⟨Or.elim hk_ (fun hs_ => hs_.1) (fun hn_ => (Kd.fresh' (Kd.Q_lt (by (with_reducible repeat (first | apply Kd.Q_alloc | apply Kd.Q_drewN | apply Kd.Q_drew)); exact HO_5.out)) k_ hn_)), Or.elim hk_ (fun hs_ => hs_.2.1) (fun hn_ => (fb a.out k_ hn_)), Or.elim hk_ (fun hs_ => hs_.2.2) (fun hn_ => (fb d.out k_ hn_))⟩)) (below_size bl_)); have P := Z (Kd.V_lower (Kd.V_mono (ok' := fun k_ => some k_ ≠ (.slice aL c.length aN : Value).ownBlock ∧ k_ ≠ l ∧ k_ ≠ x) bc (fun k_ hk_ => ⟨Or.elim hk_ (fun hs_ => hs_.1) (fun hn_ => (Kd.fresh' (Kd.Q_lt (by (with_reducible repeat (first | apply Kd.Q_alloc | apply Kd.Q_drewN | apply Kd.Q_drew)); exact HO_5.out)) k_ hn_)), Or.elim hk_ (fun hs_ => hs_.2.1) (fun hn_ => (fb a.out k_ hn_)), Or.elim hk_ (fun hs_ => hs_.2.2) (fun hn_ => (fb d.out k_ hn_))⟩)) (below_size bl_)); have U := Z (kb a.out hb); have W := Z (kb d.out hb); have X := Z (below_step bl_ hb); clear HO_5 F J a d HB; have HO_5 := A; have F := B; have J := G; have aH := L; have aP := P; have a := U; have d := W; have HB := X; clear A B G L P U W X; (try clear hb); (try clear bq); (try clear hk); (try clear hi); (try clear aQ); (try clear bc); (try simp only [errW_none, errW_some])) | ((with_reducible refine gate_dst (N := 9) rfl ?_); refine box_event ?hg (N := 9) ?hd (cs := #[.int .i64 0, .int .i64 0, .slice none 0 0, .int .i64 0, .bool false, .bool false]) (t := 24) ?hr ?_; (case hd => rfl); (case hg => rfl); (case hr => first | (go_simp; done) | (go_simp; rfl)); intro z hg g0 hbox hb; have A := Z (Kd.Q_below (by (with_reducible repeat (first | apply Kd.Q_alloc | apply Kd.Q_drewN | apply Kd.Q_drew)); exact HO_5.out) hb); have B := Z (ve F.out hg hb); have G := Z (ve J.out hg hb); have L := Z (ve aH.out hg hb); have P := Z (ve aP.out hg hb); have U := Z (kb a.out hb); have W := Z (kb d.out hb); have X := Z (below_step bl_ hb); have aa := Z (hbox); have ap := Z ((le_new hg (below_size bl_) : w.heap.size ≤ z)); have aq := Z ((le_new hg (below_size bl_) : w.heap.size ≤ z)); have aW := Z (nl a.out hg); have bs := Z (ng a.out hg); have bt := Z (nl d.out hg); have bu := Z (ng d.out hg); clear HO_5 F J aH aP a d HB; have HO_5 := A; have F := B; have J := G; have aH := L; have aP := P; have a := U; have d := W; have HB := X; have j := aa; have gR := ap; have gO := aq; have bz := aW; have b8 := bs; have bB := bt; have b9 := bu; clear A B G L P U W X aa ap aq aW bs bt bu; clear hb hbox hg; have g4 := b8.out; have hp := bz.out; have g5 := b9.out; have hq := bB.out; obtain ⟨dM, dN, dO, dP, dQ, dR, ey, ez, eA, eB, eC, eD⟩ := cells6 j.out; obtain ⟨bj, bm, fu⟩ := Kd.V_slice aH.out; subst fu) | ((with_reducible refine gate_store (t := 24) (p := 9) rfl ?_); refine store_event (t := 24) (p := 9) (v := ?vo_w45) (w1 := ((((((g0.setCell ⟨z, 0, none⟩ (.int .i64 ab)).setCell ⟨z, 1, none⟩ (.int .i64 ac)).setCell ⟨z, 2, none⟩ (.slice bj T.length bm)).setCell ⟨z, 3, none⟩ (.int .i64 ad)).setCell ⟨z, 4, none⟩ (.bool ae)).setCell ⟨z, 5, none⟩ (.bool af))) ?hg ?ho ?hn ?hr ?_; (case ho => rfl); (case hg => rfl); (case hn => rfl); (case hr => first | (go_simp; done) | (go_simp; rfl)); intro bK hw; have A : Aside0 (Kd.Q (Kd.int .i64) 3 bK w.heap.size (fun _ => True) (.slice aL c.length aN) c) := ⟨(by rw [hw]; exact (by (with_reducible repeat (first | apply Kd.Q_alloc | apply Kd.Q_drewN | apply Kd.Q_drew)); exact Kd.Q_mono (Kd.Q_far (p := ⟨z, 5, none⟩) (Kd.Q_far (p := ⟨z, 4, none⟩) (Kd.Q_far (p := ⟨z, 3, none⟩) (Kd.Q_far (p := ⟨z, 2, none⟩) (Kd.Q_far (p := ⟨z, 1, none⟩) (Kd.Q_far (p := ⟨z, 0, none⟩) (Kd.Q_types HO_5.out j.out (by decide)) (fun _ hk => hk.2) (.int .i64 ab)) (fun _ hk => hk.2) (.int .i64 ac)) (fun _ hk => hk.2) (.slice bj T.length bm)) (fun _ hk => hk.2) (.int .i64 ad)) (fun _ hk => hk.2) (.bool ae)) (fun _ hk => hk.2) (.bool af)) (fun _ hk => trivial)))⟩; have B : Aside0 (Kd.V k35 35 bK w.heap.size (fun k_ => some k_ ≠ (.slice aL c.length aN : Value).ownBlock ∧ k_ ≠ l ∧ k_ ≠ x ∧ k_ ≠ z) (.slice aU R.length aV) R) := ⟨(by rw [hw]; exact (by (with_reducible repeat apply pV); exact V_off F.out (fun k_ hk => hk.2) off2_ (fun _ hk => ⟨hk.1.1, ⟨hk.1.2.1, ⟨hk.1.2.2, hk.2⟩⟩⟩)))⟩; have G : Aside0 (Kd.V k164 164 bK w.heap.size (fun k_ => some k_ ≠ (.slice aL c.length aN : Value).ownBlock ∧ k_ ≠ l ∧ k_ ≠ x ∧ k_ ≠ z) bY bI) := ⟨(by rw [hw]; exact (by (with_reducible repeat apply pV); exact V_off J.out (fun k_ hk => hk.2) off2_ (fun _ hk => ⟨hk.1.1, ⟨hk.1.2.1, ⟨hk.1.2.2, hk.2⟩⟩⟩)))⟩; have L : Aside0 (Kd.V k35 35 bK w.heap.size (fun k_ => some k_ ≠ (.slice aL c.length aN : Value).ownBlock ∧ k_ ≠ l ∧ k_ ≠ x ∧ k_ ≠ z) (.slice bj T.length bm) T) := ⟨(by rw [hw]; exact (by (with_reducible repeat apply pV); exact V_off aH.out (fun k_ hk => hk.2) off2_ (fun _ hk => ⟨hk.1.1, ⟨hk.1.2.1, ⟨hk.1.2.2, hk.2⟩⟩⟩)))⟩; have P : Aside0 (Kd.V k164 164 bK w.heap.size (fun k_ => some k_ ≠ (.slice aL c.length aN : Value).ownBlock ∧ k_ ≠ l ∧ k_ ≠ x ∧ k_ ≠ z) fe de) := ⟨(by rw [hw]; exact (by (with_reducible repeat apply pV); exact V_off aP.out (fun k_ hk => hk.2) off2_ (fun _ hk => ⟨hk.1.1, ⟨hk.1.2.1, ⟨hk.1.2.2, hk.2⟩⟩⟩)))⟩; have U : Aside0 (bK.heap[l]? = some (.cells #[.int .i64 D, .int .i64 E, .slice aR q.length aK, .int .i64 s, .bool false, .bool true] 24 (0, 0))) := ⟨(by rw [hw]; exact (by (with_reducible repeat apply pK); exact blk_off a.out bz.out off2_))⟩; have W : Aside0 (bK.heap[x]? = some (.cells #[.int .i64 ar, .int .i64 au, .slice aU R.length aV, .int .i64 s, .bool av, .bool aw] 24 (0, 0))) := ⟨(by rw [hw]; exact (by (with_reducible repeat apply pK); exact blk_off d.out bB.out off2_))⟩; have X : Aside0 (bK.heap[z]? = some (.cells #[.int .i64 ab, .int .i64 ac, .slice bj T.length bm, .int .i64 ad, .bool ae, .bool af] 24 (0, 0))) := ⟨by rw [hw]; exact (put6 j.out)⟩; have aa : Aside0 (Below w.heap.size w bK) := ⟨by rw [hw]; exact bl_⟩; clear hw HO_5 F J aH aP a d j HB; have HO_5 := A; have F := B; have J := G; have aH := L; have aP := P; have a := U; have d := W; have j := X; have HB := aa; clear A B G L P U W X aa; obtain ⟨dS, dT, dU, dV, dW, dX, eE, eF, eG, eH, eI, eJ⟩ := cells6 d.out) | ((with_reducible refine gate_callee (f := 19) rfl ?_); refine goesL_ (some 69) rfl rfl Tryd.func19 (by kernel_rfl) rfl #[.agg #[.int .i64 ar, .int .i64 au, .slice aU R.length aV, .int .i64 s, .bool av, .bool aw], .int .i64 13] rfl ag_ ?_; (with_reducible refine (wipe_Do.calls k1 ar au (fun k_ => (some k_ ≠ (.slice aL c.length aN : Value).ownBlock ∧ (k_ ≠ l ∧ (k_ ≠ x ∧ k_ ≠ z)))) _ _ R s av aw 13 ax ay Y az aA aB bR fa _ ?side1 gJ.out).mono ?_); (case side1 => exact F.out); rintro e id ⟨hF, hH, rfl, aQ, bc, hb⟩; refine ⟨_, rfl, ?_⟩; have A := Z (Kd.Q_below (by (with_reducible repeat (first | apply Kd.Q_alloc | apply Kd.Q_drewN | apply Kd.Q_drew)); exact HO_5.out) hb); have B := Z (vb F.out hb); have G := Z (vb J.out hb); have L := Z (vb aH.out hb); have P := Z (vb aP.out hb); have U := Z (Kd.V_lower (Kd.V_mono (ok' := fun k_ => some k_ ≠ (.slice aL c.length aN : Value).ownBlock ∧ k_ ≠ l ∧ k_ ≠ x ∧ k_ ≠ z) aQ (fun k_ hk_ => ⟨Or.elim hk_ (fun hs_ => hs_.1) (fun hn_ => (Kd.fresh' (Kd.Q_lt (by (with_reducible repeat (first | apply Kd.Q_alloc | apply Kd.Q_drewN | apply Kd.Q_drew)); exact HO_5.out)) k_ hn_)), Or.elim hk_ (fun hs_ => hs_.2.1) (fun hn_ => (fb a.out k_ hn_)), Or.elim hk_ (fun hs_ => hs_.2.2.1) (fun hn_ => (fb d.out k_ hn_)), Or.elim hk_ (fun hs_ => hs_.2.2.2) (fun hn_ => (fb j.out k_ hn_))⟩)) (below_size bl_)); have W := Z (Kd.V_lower (Kd.V_mono (ok' := fun k_ => some k_ ≠ (.slice aL c.length aN : Value).ownBlock ∧ k_ ≠ l ∧ k_ ≠ x ∧ k_ ≠ z) bc (fun k_ hk_ => ⟨Or.elim hk_ (fun hs_ => hs_.1) (fun hn_ => (Kd.fresh' (Kd.Q_lt (by (with_reducible repeat (first | apply Kd.Q_alloc | apply Kd.Q_drewN | apply Kd.Q_drew)); exact HO_5.out)) k_ hn_)), Or.elim hk_ (fun hs_ => hs_.2.1) (fun hn_ => (fb a.out k_ hn_)), Or.elim hk_ (fun hs_ => hs_.2.2.1) (fun hn_ => (fb d.out k_ hn_)), Or.elim hk_ (fun hs_ => hs_.2.2.2) (fun hn_ => (fb j.out k_ hn_))⟩)) (below_size bl_)); have X := Z (kb a.out hb); have aa := Z (kb d.out hb); have ap := Z (kb j.out hb); have aq := Z (below_step bl_ hb); clear HO_5 F J aH aP a d j HB; have HO_5 := A; have F := B; have J := G; have aH := L; have aP := P; have bn := U; have bZ := W; have a := X; have d := aa; have j := ap; have HB := aq; clear A B G L P U W X aa ap aq; (try clear hb); (try clear bq); (try clear hk); (try clear hi); (try clear aQ); (try clear bc); (try simp only [errW_none, errW_some])) | ((with_reducible refine gate_dst (N := 11) rfl ?_); refine box_event ?hg (N := 11) ?hd (cs := #[.int .i64 0, .int .i64 0, .slice none 0 0, .int .i64 0, .bool false, .bool false]) (t := 24) ?hr ?_; (case hd => rfl); (case hg => rfl); (case hr => first | (go_simp; done) | (go_simp; rfl)); intro m hg ie hbox hb; have A := Z (Kd.Q_below (by (with_reducible repeat (first | apply Kd.Q_alloc | apply Kd.Q_drewN | apply Kd.Q_drew)); exact HO_5.out) hb); have B := Z (ve F.out hg hb); have G := Z (ve J.out hg hb); have L := Z (ve aH.out hg hb); have P := Z (ve aP.out hg hb); have U := Z (ve bn.out hg hb); have W := Z (ve bZ.out hg hb); have X := Z (kb a.out hb); have aa := Z (kb d.out hb); have ap := Z (kb j.out hb); have aq := Z (below_step bl_ hb); have aW := Z (hbox); have bs := Z ((le_new hg (below_size bl_) : w.heap.size ≤ m)); have bt := Z ((le_new hg (below_size bl_) : w.heap.size ≤ m)); have bu := Z (nl a.out hg); have b2 := Z (ng a.out hg); have b3 := Z (nl d.out hg); have b4 := Z (ng d.out hg); have b5 := Z (nl j.out hg); have b6 := Z (ng j.out hg); clear HO_5 F J aH aP bn bZ a d j HB; have HO_5 := A; have F := B; have J := G; have aH := L; have aP := P; have bn := U; have bZ := W; have a := X; have d := aa; have j := ap; have HB := aq; have I := aW; have gS := bs; have gP := bt; have aY := bu; have bE := b2; have aZ := b3; have bF := b4; have a0 := b5; have bG := b6; clear A B G L P U W X aa ap aq aW bs bt bu b2 b3 b4 b5 b6; clear hb hbox hg; have g6 := bE.out; have hs := aY.out; have g7 := bF.out; have ht := aZ.out; have g8 := bG.out; have hu := a0.out; obtain ⟨dY, dZ, d0, d1, d2, d3, eK, eL, eM, eN, eO, eP⟩ := cells6 I.out; obtain ⟨a2, a4, fv⟩ := Kd.V_slice bn.out; subst fv))
       (try simp only [Act.put, sA, sB, sC])
       go_cut [77] (fun gY wc => ∃ (kq : Nat) (bL : Bool), gY = .bool bL ∧ Aside0 (shutterlaw16_WipeUndoes.j1 kq a1 bL D E q s false true ab ac T ad ae af ax ay Y az aA aB = some r) ∧ Aside0 (kq ≤ k1) ∧ Aside0 (Kd.V k35 35 wc w.heap.size (fun k_ => k_ ≠ l ∧ k_ ≠ x ∧ k_ ≠ z ∧ k_ ≠ m) (.slice aU R.length aV) R) ∧ Aside0 (Kd.V k35 35 wc w.heap.size (fun k_ => k_ ≠ l ∧ k_ ≠ x ∧ k_ ≠ z ∧ k_ ≠ m) (.slice bj T.length bm) T) ∧ Aside0 (Kd.V k35 35 wc w.heap.size (fun k_ => k_ ≠ l ∧ k_ ≠ x ∧ k_ ≠ z ∧ k_ ≠ m) (.slice a2 Y.length a4) Y) ∧ Aside0 (wc.heap[l]? = some (.cells #[.int .i64 D, .int .i64 E, (.slice aR q.length aK), .int .i64 s, .bool false, .bool true] 24 (0, 0))) ∧ Aside0 (wc.heap[x]? = some (.cells #[.int .i64 ar, .int .i64 au, (.slice aU R.length aV), .int .i64 s, .bool av, .bool aw] 24 (0, 0))) ∧ Aside0 (wc.heap[z]? = some (.cells #[.int .i64 ab, .int .i64 ac, (.slice bj T.length bm), .int .i64 ad, .bool ae, .bool af] 24 (0, 0))) ∧ Aside0 (wc.heap[m]? = some (.cells #[.int .i64 ax, .int .i64 ay, (.slice a2 Y.length a4), .int .i64 az, .bool aA, .bool aB] 24 (0, 0))) ∧ Aside0 (Below w.heap.size w wc))
       case first =>
        have H := cV.out
        clear cV
        rcases bQ with _ | db
        ·have H1 : (if bR.isNone = true then (shutterlaw16_WipeUndoes.j1 k1 a1 false D E q s false true ab ac T ad ae af ax ay Y az aA aB) else (shutterlaw16_WipeUndoes.j1 k1 a1 true D E q s false true ab ac T ad ae af ax ay Y az aA aB)) = some r := by rw [if_pos (show (none : Option Er).isNone = true by rfl)] at H; exact H
         clear H
         have H := H1
         clear H1
         try simp only [errW_none, errW_some]
         rcases bR with _ | dc
         ·have H1 : (shutterlaw16_WipeUndoes.j1 k1 a1 false D E q s false true ab ac T ad ae af ax ay Y az aA aB) = some r := by rw [if_pos (show (none : Option Er).isNone = true by rfl)] at H; exact H
          clear H
          have H := H1
          clear H1
          try simp only [errW_none, errW_some]
          have H' := Z H
          clear H
          go_wp2
          go_meet
          case rel => exact ⟨_, (false), (by first | rfl | (simp; done) | (simp [*]; done)), H', ⟨by have := cW.out; first | omega | exact Nat.le_refl _⟩, ⟨by (with_reducible repeat apply pV); exact Kd.V_mono (Kd.V_far (p := ⟨m, 5, none⟩) (Kd.V_far (p := ⟨m, 4, none⟩) (Kd.V_far (p := ⟨m, 3, none⟩) (Kd.V_far (p := ⟨m, 2, none⟩) (Kd.V_far (p := ⟨m, 1, none⟩) (Kd.V_far (p := ⟨m, 0, none⟩) (Kd.V_mono F.out (fun k_ hk => (⟨hk, hk.2⟩ : _ ∧ k_ ≠ m))) (fun _ hk => hk.2) (.int .i64 ax)) (fun _ hk => hk.2) (.int .i64 ay)) (fun _ hk => hk.2) (.slice a2 Y.length a4)) (fun _ hk => hk.2) (.int .i64 az)) (fun _ hk => hk.2) (.bool aA)) (fun _ hk => hk.2) (.bool aB)) (fun _ hk => ⟨hk.1.1.2.1, ⟨hk.1.1.2.2.1, ⟨hk.1.1.2.2.2, hk.1.2⟩⟩⟩)⟩, ⟨by (with_reducible repeat apply pV); exact Kd.V_mono (Kd.V_far (p := ⟨m, 5, none⟩) (Kd.V_far (p := ⟨m, 4, none⟩) (Kd.V_far (p := ⟨m, 3, none⟩) (Kd.V_far (p := ⟨m, 2, none⟩) (Kd.V_far (p := ⟨m, 1, none⟩) (Kd.V_far (p := ⟨m, 0, none⟩) (Kd.V_mono aH.out (fun k_ hk => (⟨hk, hk.2⟩ : _ ∧ k_ ≠ m))) (fun _ hk => hk.2) (.int .i64 ax)) (fun _ hk => hk.2) (.int .i64 ay)) (fun _ hk => hk.2) (.slice a2 Y.length a4)) (fun _ hk => hk.2) (.int .i64 az)) (fun _ hk => hk.2) (.bool aA)) (fun _ hk => hk.2) (.bool aB)) (fun _ hk => ⟨hk.1.1.2.1, ⟨hk.1.1.2.2.1, ⟨hk.1.1.2.2.2, hk.1.2⟩⟩⟩)⟩, ⟨by (with_reducible repeat apply pV); exact Kd.V_mono (Kd.V_far (p := ⟨m, 5, none⟩) (Kd.V_far (p := ⟨m, 4, none⟩) (Kd.V_far (p := ⟨m, 3, none⟩) (Kd.V_far (p := ⟨m, 2, none⟩) (Kd.V_far (p := ⟨m, 1, none⟩) (Kd.V_far (p := ⟨m, 0, none⟩) (Kd.V_mono bn.out (fun k_ hk => (⟨hk, hk.2⟩ : _ ∧ k_ ≠ m))) (fun _ hk => hk.2) (.int .i64 ax)) (fun _ hk => hk.2) (.int .i64 ay)) (fun _ hk => hk.2) (.slice a2 Y.length a4)) (fun _ hk => hk.2) (.int .i64 az)) (fun _ hk => hk.2) (.bool aA)) (fun _ hk => hk.2) (.bool aB)) (fun _ hk => ⟨hk.1.1.2.1, ⟨hk.1.1.2.2.1, ⟨hk.1.1.2.2.2, hk.1.2⟩⟩⟩)⟩, ⟨by (with_reducible repeat apply pK); exact blk_off a.out aY.out off2_⟩, ⟨by (with_reducible repeat apply pK); exact blk_off d.out aZ.out off2_⟩, ⟨by (with_reducible repeat apply pK); exact blk_off j.out a0.out off2_⟩, ⟨put6 I.out⟩, ⟨bl_⟩⟩
         ·have H1 : (shutterlaw16_WipeUndoes.j1 k1 a1 true D E q s false true ab ac T ad ae af ax ay Y az aA aB) = some r := by rw [if_neg (show ¬ (some dc).isNone = true by simp)] at H; exact H
          clear H
          have H := H1
          clear H1
          try simp only [errW_none, errW_some]
          have H' := Z H
          clear H
          go_wp2
          go_meet
          case rel => exact ⟨_, (true), (by first | rfl | (simp; done) | (simp [*]; done)), H', ⟨by have := cW.out; first | omega | exact Nat.le_refl _⟩, ⟨by (with_reducible repeat apply pV); exact Kd.V_mono (Kd.V_far (p := ⟨m, 5, none⟩) (Kd.V_far (p := ⟨m, 4, none⟩) (Kd.V_far (p := ⟨m, 3, none⟩) (Kd.V_far (p := ⟨m, 2, none⟩) (Kd.V_far (p := ⟨m, 1, none⟩) (Kd.V_far (p := ⟨m, 0, none⟩) (Kd.V_mono F.out (fun k_ hk => (⟨hk, hk.2⟩ : _ ∧ k_ ≠ m))) (fun _ hk => hk.2) (.int .i64 ax)) (fun _ hk => hk.2) (.int .i64 ay)) (fun _ hk => hk.2) (.slice a2 Y.length a4)) (fun _ hk => hk.2) (.int .i64 az)) (fun _ hk => hk.2) (.bool aA)) (fun _ hk => hk.2) (.bool aB)) (fun _ hk => ⟨hk.1.1.2.1, ⟨hk.1.1.2.2.1, ⟨hk.1.1.2.2.2, hk.1.2⟩⟩⟩)⟩, ⟨by (with_reducible repeat apply pV); exact Kd.V_mono (Kd.V_far (p := ⟨m, 5, none⟩) (Kd.V_far (p := ⟨m, 4, none⟩) (Kd.V_far (p := ⟨m, 3, none⟩) (Kd.V_far (p := ⟨m, 2, none⟩) (Kd.V_far (p := ⟨m, 1, none⟩) (Kd.V_far (p := ⟨m, 0, none⟩) (Kd.V_mono aH.out (fun k_ hk => (⟨hk, hk.2⟩ : _ ∧ k_ ≠ m))) (fun _ hk => hk.2) (.int .i64 ax)) (fun _ hk => hk.2) (.int .i64 ay)) (fun _ hk => hk.2) (.slice a2 Y.length a4)) (fun _ hk => hk.2) (.int .i64 az)) (fun _ hk => hk.2) (.bool aA)) (fun _ hk => hk.2) (.bool aB)) (fun _ hk => ⟨hk.1.1.2.1, ⟨hk.1.1.2.2.1, ⟨hk.1.1.2.2.2, hk.1.2⟩⟩⟩)⟩, ⟨by (with_reducible repeat apply pV); exact Kd.V_mono (Kd.V_far (p := ⟨m, 5, none⟩) (Kd.V_far (p := ⟨m, 4, none⟩) (Kd.V_far (p := ⟨m, 3, none⟩) (Kd.V_far (p := ⟨m, 2, none⟩) (Kd.V_far (p := ⟨m, 1, none⟩) (Kd.V_far (p := ⟨m, 0, none⟩) (Kd.V_mono bn.out (fun k_ hk => (⟨hk, hk.2⟩ : _ ∧ k_ ≠ m))) (fun _ hk => hk.2) (.int .i64 ax)) (fun _ hk => hk.2) (.int .i64 ay)) (fun _ hk => hk.2) (.slice a2 Y.length a4)) (fun _ hk => hk.2) (.int .i64 az)) (fun _ hk => hk.2) (.bool aA)) (fun _ hk => hk.2) (.bool aB)) (fun _ hk => ⟨hk.1.1.2.1, ⟨hk.1.1.2.2.1, ⟨hk.1.1.2.2.2, hk.1.2⟩⟩⟩)⟩, ⟨by (with_reducible repeat apply pK); exact blk_off a.out aY.out off2_⟩, ⟨by (with_reducible repeat apply pK); exact blk_off d.out aZ.out off2_⟩, ⟨by (with_reducible repeat apply pK); exact blk_off j.out a0.out off2_⟩, ⟨put6 I.out⟩, ⟨bl_⟩⟩
        ·have H1 : (none) = some r := by rw [if_neg (show ¬ (some db).isNone = true by simp)] at H; exact H
         clear H
         have H := H1
         clear H1
         try simp only [errW_none, errW_some]
         exact absurd H (by simp)
       case rest =>
        clear cV
        try clear c1
        try clear p1
        try clear q1
        try clear hx1
        try clear c2
        try clear p2
        try clear c3
        try clear c4
        try clear c5
        try clear c6
        try clear p6
        try clear p11
        try clear h6
        try clear hW
        try clear gU
        try clear b1
        try clear cX
        try clear cH
        try clear e6
        try clear cI
        try clear e7
        try clear cJ
        try clear e8
        try clear bp
        try clear cY
        try clear cZ
        try clear c0
        try clear hY
        try clear hZ
        try clear h0
        try clear h1
        try clear h2
        try clear h3
        try clear h4
        try clear h5
        try clear ce
        try clear cf
        try clear cg
        try clear ch
        try clear ci
        try clear cj
        try clear ck
        try clear cl
        try clear cm
        try clear cn
        try clear co
        try clear cp
        try clear dg
        try clear dh
        try clear di
        try clear dj
        try clear dk
        try clear dl
        try clear dm
        try clear dn
        try clear dp
        try clear dq
        try clear dr
        try clear dt
        try clear du
        try clear dv
        try clear dw
        try clear dx
        try clear dy
        try clear dz
        try clear dA
        try clear dB
        try clear dC
        try clear dD
        try clear dE
        try clear dF
        try clear dG
        try clear dH
        try clear dI
        try clear dJ
        try clear dK
        try clear dL
        try clear dM
        try clear dN
        try clear dO
        try clear dP
        try clear dQ
        try clear dR
        try clear dS
        try clear dT
        try clear dU
        try clear dV
        try clear dW
        try clear dX
        try clear dY
        try clear dZ
        try clear d0
        try clear d1
        try clear d2
        try clear d3
        try clear cq
        try clear cr
        try clear ct
        try clear cu
        try clear cv
        try clear cw
        try clear cx
        try clear cy
        try clear cz
        try clear cA
        try clear cB
        try clear cC
        try clear d4
        try clear d5
        try clear d6
        try clear d7
        try clear d8
        try clear d9
        try clear ea
        try clear eb
        try clear ec
        try clear ed
        try clear ee
        try clear ef
        try clear eg
        try clear eh
        try clear ei
        try clear ej
        try clear ek
        try clear el
        try clear em
        try clear en
        try clear eo
        try clear ep
        try clear eq
        try clear er
        try clear es
        try clear et
        try clear eu
        try clear ev
        try clear ew
        try clear ex
        try clear ey
        try clear ez
        try clear eA
        try clear eB
        try clear eC
        try clear eD
        try clear eE
        try clear eF
        try clear eG
        try clear eH
        try clear eI
        try clear eJ
        try clear eK
        try clear eL
        try clear eM
        try clear eN
        try clear eO
        try clear eP
        try clear aX
        try clear ai
        try clear aj
        try clear ak
        try clear al
        try clear am
        try clear an
        try clear bd
        try clear be
        try clear p2
        try clear bf
        try clear bg
        try clear cG
        try clear db
        try clear dc
        obtain ⟨kq, bL, rfl, HA, hP, HO_1141002, HO_1155002, HO_1168002, a, d, j, I, HB⟩ := hcut
        cases kq with
        | zero => exact absurd HA.out (by simp [shutterlaw16_WipeUndoes.j1])
        | succ bM =>
         have H := HA.out
         clear HA
         simp only [shutterlaw16_WipeUndoes.j1] at H
         by_cases c7 : bL = true
         ·subst c7
          have H1 : (none) = some r := by rw [if_pos rfl] at H; exact H
          clear H
          have H := H1
          clear H1
          exact absurd H (by simp)
         ·replace c7 := Bool.eq_false_iff.mpr c7
          subst c7
          have H1 : ((edit_Type.f bM ax ay Y az aA aB a1).bind fun e2 => ((edit_Modify.f D E q s false true s).bind fun aJ => ((shutterref10_Same.f bM ab ac T ad ae af aJ.1 aJ.2.1 aJ.2.2.1 aJ.2.2.2.1 aJ.2.2.2.2.1 aJ.2.2.2.2.2).bind fun bi => (if bi = true then (if e2.2.2.2.2.2.2.1.isNone = true then (some true) else (none)) else (none))))) = some r := by rw [if_neg (show ¬ (false = true) by decide)] at H; exact H
          clear H
          have H := H1
          clear H1
          replace H := Option.bind_eq_some_iff.mp H
          obtain ⟨⟨aC, aD, ag, aE, aF, aG, bJ, df⟩, eT, H⟩ := H
          replace H : ((edit_Modify.f D E q s false true s).bind fun aJ => ((shutterref10_Same.f bM ab ac T ad ae af aJ.1 aJ.2.1 aJ.2.2.1 aJ.2.2.2.1 aJ.2.2.2.2.1 aJ.2.2.2.2.2).bind fun bi => (if bi = true then (if bJ.isNone = true then (some true) else (none)) else (none)))) = some r := H
          have gL := Z eT
          clear eT
          replace H := Option.bind_eq_some_iff.mp H
          obtain ⟨⟨bS, bT, bU, bV, bW, bX⟩, eU, H⟩ := H
          replace H : ((shutterref10_Same.f bM ab ac T ad ae af bS bT bU bV bW bX).bind fun bi => (if bi = true then (if bJ.isNone = true then (some true) else (none)) else (none))) = some r := H
          have gM := Z eU
          clear eU
          replace H := Option.bind_eq_some_iff.mp H
          obtain ⟨bi, eV, H⟩ := H
          replace H : (if bi = true then (if bJ.isNone = true then (some true) else (none)) else (none)) = some r := H
          have gN := Z eV
          clear eV
          by_cases c8 : bi = true
          ·subst c8
           have H1 : (if bJ.isNone = true then (some true) else (none)) = some r := by rw [if_pos rfl] at H; exact H
           clear H
           have H := H1
           clear H1
           rcases bJ with _ | e9
           ·have H1 : (some true) = some r := by rw [if_pos (show (none : Option Er).isNone = true by rfl)] at H; exact H
            clear H
            have H := H1
            clear H1
            try simp only [errW_none, errW_some]
            obtain rfl := Option.some.inj H
            have g9 := bE.out
            have hv := aY.out
            have ha := bF.out
            have hx := aZ.out
            have hc := bG.out
            have hy := a0.out
            obtain ⟨fz, fA, fB, fC, fD, fE, gd, ge, gf, gg, gh, gi⟩ := cells6 I.out
            try go_wp2_with (first | ((with_reducible refine gate_callee (f := 31) rfl ?_); refine goesL_ (some 81) rfl rfl Tryd.func31 (by kernel_rfl) rfl #[.agg #[.int .i64 ax, .int .i64 ay, .slice a2 Y.length a4, .int .i64 az, .bool aA, .bool aB], .int .u8 a1] rfl ag_ ?_; (with_reducible refine (edit_Type.calls bM ax ay (fun k_ => (k_ ≠ l ∧ (k_ ≠ x ∧ (k_ ≠ z ∧ k_ ≠ m)))) _ _ Y az aA aB a1 aC aD ag aE aF aG none df _ ?side1 gL.out).mono ?_); (case side1 => exact HO_1168002.out); rintro e ig ⟨hI, ff, rfl, aQ, bc, hb⟩; refine ⟨_, rfl, ?_⟩; have A := Z (vb HO_1141002.out hb); have B := Z (vb HO_1155002.out hb); have G := Z (vb HO_1168002.out hb); have L := Z (Kd.V_lower (Kd.V_mono (ok' := fun k_ => k_ ≠ l ∧ k_ ≠ x ∧ k_ ≠ z ∧ k_ ≠ m) aQ (fun k_ hk_ => ⟨Or.elim hk_ (fun hs_ => hs_.1) (fun hn_ => (fb a.out k_ hn_)), Or.elim hk_ (fun hs_ => hs_.2.1) (fun hn_ => (fb d.out k_ hn_)), Or.elim hk_ (fun hs_ => hs_.2.2.1) (fun hn_ => (fb j.out k_ hn_)), Or.elim hk_ (fun hs_ => hs_.2.2.2) (fun hn_ => (fb I.out k_ hn_))⟩)) (below_size bl_)); have P := Z (Kd.V_lower (Kd.V_mono (ok' := fun k_ => k_ ≠ l ∧ k_ ≠ x ∧ k_ ≠ z ∧ k_ ≠ m) bc (fun k_ hk_ => ⟨Or.elim hk_ (fun hs_ => hs_.1) (fun hn_ => (fb a.out k_ hn_)), Or.elim hk_ (fun hs_ => hs_.2.1) (fun hn_ => (fb d.out k_ hn_)), Or.elim hk_ (fun hs_ => hs_.2.2.1) (fun hn_ => (fb j.out k_ hn_)), Or.elim hk_ (fun hs_ => hs_.2.2.2) (fun hn_ => (fb I.out k_ hn_))⟩)) (below_size bl_)); have U := Z (kb a.out hb); have W := Z (kb d.out hb); have X := Z (kb j.out hb); have aa := Z (kb I.out hb); have ap := Z (below_step bl_ hb); clear HO_1141002 HO_1155002 HO_1168002 a d j I HB; have HO_1141002 := A; have HO_1155002 := B; have HO_1168002 := G; have ah := L; have ao := P; have a := U; have d := W; have j := X; have I := aa; have HB := ap; clear A B G L P U W X aa ap; (try clear hb); (try clear bq); (try clear hk); (try clear hi); (try clear aQ); (try clear bc); (try simp only [errW_none, errW_some])) | ((with_reducible refine gate_dst (N := 13) rfl ?_); refine box_event ?hg (N := 13) ?hd (cs := #[.int .i64 0, .int .i64 0, .slice none 0 0, .int .i64 0, .bool false, .bool false]) (t := 24) ?hr ?_; (case hd => rfl); (case hg => rfl); (case hr => first | (go_simp; done) | (go_simp; rfl)); intro b hg w64 hbox hb; have A := Z (ve HO_1141002.out hg hb); have B := Z (ve HO_1155002.out hg hb); have G := Z (ve HO_1168002.out hg hb); have L := Z (ve ah.out hg hb); have P := Z (ve ao.out hg hb); have U := Z (kb a.out hb); have W := Z (kb d.out hb); have X := Z (kb j.out hb); have aa := Z (kb I.out hb); have ap := Z (below_step bl_ hb); have aq := Z (hbox); have aW := Z ((le_new hg (below_size bl_) : w.heap.size ≤ b)); have bs := Z ((le_new hg (below_size bl_) : w.heap.size ≤ b)); have bt := Z (nl a.out hg); have bu := Z (ng a.out hg); have b2 := Z (nl d.out hg); have b3 := Z (ng d.out hg); have b4 := Z (nl j.out hg); have b5 := Z (ng j.out hg); have b6 := Z (nl I.out hg); have e5 := Z (ng I.out hg); clear HO_1141002 HO_1155002 HO_1168002 ah ao a d j I HB; have HO_1141002 := A; have HO_1155002 := B; have HO_1168002 := G; have ah := L; have ao := P; have a := U; have d := W; have j := X; have I := aa; have HB := ap; have aI := aq; have gT := aW; have gQ := bs; have bA := bt; have ca := bu; have bC := b2; have cb := b3; have bD := b4; have cc := b5; have bH := b6; have cd := e5; clear A B G L P U W X aa ap aq aW bs bt bu b2 b3 b4 b5 b6 e5; clear hb hbox hg; have he := ca.out; have hz := bA.out; have hf := cb.out; have hA := bC.out; have hh := cc.out; have hB := bD.out; have hj := cd.out; have hC := bH.out; obtain ⟨fF, fG, fH, fI, fJ, fK, gj, gl, gm, gn, go, gp⟩ := cells6 aI.out; obtain ⟨aM, aO, fw⟩ := Kd.V_slice ah.out; subst fw))
            have A : Aside0 (Kd.V k35 35 ((((((w64.setCell ⟨b, 0, none⟩ (.int .i64 aC)).setCell ⟨b, 1, none⟩ (.int .i64 aD)).setCell ⟨b, 2, none⟩ (.slice aM ag.length aO)).setCell ⟨b, 3, none⟩ (.int .i64 aE)).setCell ⟨b, 4, none⟩ (.bool aF)).setCell ⟨b, 5, none⟩ (.bool aG)) w.heap.size (fun k_ => k_ ≠ l ∧ k_ ≠ x ∧ k_ ≠ z ∧ k_ ≠ m ∧ k_ ≠ b) (.slice aU R.length aV) R) := ⟨by (with_reducible repeat apply pV); exact Kd.V_mono (Kd.V_far (p := ⟨b, 5, none⟩) (Kd.V_far (p := ⟨b, 4, none⟩) (Kd.V_far (p := ⟨b, 3, none⟩) (Kd.V_far (p := ⟨b, 2, none⟩) (Kd.V_far (p := ⟨b, 1, none⟩) (Kd.V_far (p := ⟨b, 0, none⟩) (Kd.V_mono HO_1141002.out (fun k_ hk => (⟨hk, hk.2⟩ : _ ∧ k_ ≠ b))) (fun _ hk => hk.2) (.int .i64 aC)) (fun _ hk => hk.2) (.int .i64 aD)) (fun _ hk => hk.2) (.slice aM ag.length aO)) (fun _ hk => hk.2) (.int .i64 aE)) (fun _ hk => hk.2) (.bool aF)) (fun _ hk => hk.2) (.bool aG)) (fun _ hk => ⟨hk.1.1.1, ⟨hk.1.1.2.1, ⟨hk.1.1.2.2.1, ⟨hk.1.1.2.2.2, hk.1.2⟩⟩⟩⟩)⟩
            have B : Aside0 (Kd.V k35 35 ((((((w64.setCell ⟨b, 0, none⟩ (.int .i64 aC)).setCell ⟨b, 1, none⟩ (.int .i64 aD)).setCell ⟨b, 2, none⟩ (.slice aM ag.length aO)).setCell ⟨b, 3, none⟩ (.int .i64 aE)).setCell ⟨b, 4, none⟩ (.bool aF)).setCell ⟨b, 5, none⟩ (.bool aG)) w.heap.size (fun k_ => k_ ≠ l ∧ k_ ≠ x ∧ k_ ≠ z ∧ k_ ≠ m ∧ k_ ≠ b) (.slice bj T.length bm) T) := ⟨by (with_reducible repeat apply pV); exact Kd.V_mono (Kd.V_far (p := ⟨b, 5, none⟩) (Kd.V_far (p := ⟨b, 4, none⟩) (Kd.V_far (p := ⟨b, 3, none⟩) (Kd.V_far (p := ⟨b, 2, none⟩) (Kd.V_far (p := ⟨b, 1, none⟩) (Kd.V_far (p := ⟨b, 0, none⟩) (Kd.V_mono HO_1155002.out (fun k_ hk => (⟨hk, hk.2⟩ : _ ∧ k_ ≠ b))) (fun _ hk => hk.2) (.int .i64 aC)) (fun _ hk => hk.2) (.int .i64 aD)) (fun _ hk => hk.2) (.slice aM ag.length aO)) (fun _ hk => hk.2) (.int .i64 aE)) (fun _ hk => hk.2) (.bool aF)) (fun _ hk => hk.2) (.bool aG)) (fun _ hk => ⟨hk.1.1.1, ⟨hk.1.1.2.1, ⟨hk.1.1.2.2.1, ⟨hk.1.1.2.2.2, hk.1.2⟩⟩⟩⟩)⟩
            have G : Aside0 (Kd.V k35 35 ((((((w64.setCell ⟨b, 0, none⟩ (.int .i64 aC)).setCell ⟨b, 1, none⟩ (.int .i64 aD)).setCell ⟨b, 2, none⟩ (.slice aM ag.length aO)).setCell ⟨b, 3, none⟩ (.int .i64 aE)).setCell ⟨b, 4, none⟩ (.bool aF)).setCell ⟨b, 5, none⟩ (.bool aG)) w.heap.size (fun k_ => k_ ≠ l ∧ k_ ≠ x ∧ k_ ≠ z ∧ k_ ≠ m ∧ k_ ≠ b) (.slice a2 Y.length a4) Y) := ⟨by (with_reducible repeat apply pV); exact Kd.V_mono (Kd.V_far (p := ⟨b, 5, none⟩) (Kd.V_far (p := ⟨b, 4, none⟩) (Kd.V_far (p := ⟨b, 3, none⟩) (Kd.V_far (p := ⟨b, 2, none⟩) (Kd.V_far (p := ⟨b, 1, none⟩) (Kd.V_far (p := ⟨b, 0, none⟩) (Kd.V_mono HO_1168002.out (fun k_ hk => (⟨hk, hk.2⟩ : _ ∧ k_ ≠ b))) (fun _ hk => hk.2) (.int .i64 aC)) (fun _ hk => hk.2) (.int .i64 aD)) (fun _ hk => hk.2) (.slice aM ag.length aO)) (fun _ hk => hk.2) (.int .i64 aE)) (fun _ hk => hk.2) (.bool aF)) (fun _ hk => hk.2) (.bool aG)) (fun _ hk => ⟨hk.1.1.1, ⟨hk.1.1.2.1, ⟨hk.1.1.2.2.1, ⟨hk.1.1.2.2.2, hk.1.2⟩⟩⟩⟩)⟩
            have L : Aside0 (Kd.V k35 35 ((((((w64.setCell ⟨b, 0, none⟩ (.int .i64 aC)).setCell ⟨b, 1, none⟩ (.int .i64 aD)).setCell ⟨b, 2, none⟩ (.slice aM ag.length aO)).setCell ⟨b, 3, none⟩ (.int .i64 aE)).setCell ⟨b, 4, none⟩ (.bool aF)).setCell ⟨b, 5, none⟩ (.bool aG)) w.heap.size (fun k_ => k_ ≠ l ∧ k_ ≠ x ∧ k_ ≠ z ∧ k_ ≠ m ∧ k_ ≠ b) (.slice aM ag.length aO) ag) := ⟨by (with_reducible repeat apply pV); exact Kd.V_mono (Kd.V_far (p := ⟨b, 5, none⟩) (Kd.V_far (p := ⟨b, 4, none⟩) (Kd.V_far (p := ⟨b, 3, none⟩) (Kd.V_far (p := ⟨b, 2, none⟩) (Kd.V_far (p := ⟨b, 1, none⟩) (Kd.V_far (p := ⟨b, 0, none⟩) (Kd.V_mono ah.out (fun k_ hk => (⟨hk, hk.2⟩ : _ ∧ k_ ≠ b))) (fun _ hk => hk.2) (.int .i64 aC)) (fun _ hk => hk.2) (.int .i64 aD)) (fun _ hk => hk.2) (.slice aM ag.length aO)) (fun _ hk => hk.2) (.int .i64 aE)) (fun _ hk => hk.2) (.bool aF)) (fun _ hk => hk.2) (.bool aG)) (fun _ hk => ⟨hk.1.1.1, ⟨hk.1.1.2.1, ⟨hk.1.1.2.2.1, ⟨hk.1.1.2.2.2, hk.1.2⟩⟩⟩⟩)⟩
            have P : Aside0 (Kd.V k164 164 ((((((w64.setCell ⟨b, 0, none⟩ (.int .i64 aC)).setCell ⟨b, 1, none⟩ (.int .i64 aD)).setCell ⟨b, 2, none⟩ (.slice aM ag.length aO)).setCell ⟨b, 3, none⟩ (.int .i64 aE)).setCell ⟨b, 4, none⟩ (.bool aF)).setCell ⟨b, 5, none⟩ (.bool aG)) w.heap.size (fun k_ => k_ ≠ l ∧ k_ ≠ x ∧ k_ ≠ z ∧ k_ ≠ m ∧ k_ ≠ b) ff df) := ⟨by (with_reducible repeat apply pV); exact Kd.V_mono (Kd.V_far (p := ⟨b, 5, none⟩) (Kd.V_far (p := ⟨b, 4, none⟩) (Kd.V_far (p := ⟨b, 3, none⟩) (Kd.V_far (p := ⟨b, 2, none⟩) (Kd.V_far (p := ⟨b, 1, none⟩) (Kd.V_far (p := ⟨b, 0, none⟩) (Kd.V_mono ao.out (fun k_ hk => (⟨hk, hk.2⟩ : _ ∧ k_ ≠ b))) (fun _ hk => hk.2) (.int .i64 aC)) (fun _ hk => hk.2) (.int .i64 aD)) (fun _ hk => hk.2) (.slice aM ag.length aO)) (fun _ hk => hk.2) (.int .i64 aE)) (fun _ hk => hk.2) (.bool aF)) (fun _ hk => hk.2) (.bool aG)) (fun _ hk => ⟨hk.1.1.1, ⟨hk.1.1.2.1, ⟨hk.1.1.2.2.1, ⟨hk.1.1.2.2.2, hk.1.2⟩⟩⟩⟩)⟩
            have U : Aside0 (((((((w64.setCell ⟨b, 0, none⟩ (.int .i64 aC)).setCell ⟨b, 1, none⟩ (.int .i64 aD)).setCell ⟨b, 2, none⟩ (.slice aM ag.length aO)).setCell ⟨b, 3, none⟩ (.int .i64 aE)).setCell ⟨b, 4, none⟩ (.bool aF)).setCell ⟨b, 5, none⟩ (.bool aG)).heap[l]? = some (.cells #[.int .i64 D, .int .i64 E, .slice aR q.length aK, .int .i64 s, .bool false, .bool true] 24 (0, 0))) := ⟨by (with_reducible repeat apply pK); exact blk_off a.out bA.out off2_⟩
            have W : Aside0 (((((((w64.setCell ⟨b, 0, none⟩ (.int .i64 aC)).setCell ⟨b, 1, none⟩ (.int .i64 aD)).setCell ⟨b, 2, none⟩ (.slice aM ag.length aO)).setCell ⟨b, 3, none⟩ (.int .i64 aE)).setCell ⟨b, 4, none⟩ (.bool aF)).setCell ⟨b, 5, none⟩ (.bool aG)).heap[x]? = some (.cells #[.int .i64 ar, .int .i64 au, .slice aU R.length aV, .int .i64 s, .bool av, .bool aw] 24 (0, 0))) := ⟨by (with_reducible repeat apply pK); exact blk_off d.out bC.out off2_⟩
            have X : Aside0 (((((((w64.setCell ⟨b, 0, none⟩ (.int .i64 aC)).setCell ⟨b, 1, none⟩ (.int .i64 aD)).setCell ⟨b, 2, none⟩ (.slice aM ag.length aO)).setCell ⟨b, 3, none⟩ (.int .i64 aE)).setCell ⟨b, 4, none⟩ (.bool aF)).setCell ⟨b, 5, none⟩ (.bool aG)).heap[z]? = some (.cells #[.int .i64 ab, .int .i64 ac, .slice bj T.length bm, .int .i64 ad, .bool ae, .bool af] 24 (0, 0))) := ⟨by (with_reducible repeat apply pK); exact blk_off j.out bD.out off2_⟩
            have aa : Aside0 (((((((w64.setCell ⟨b, 0, none⟩ (.int .i64 aC)).setCell ⟨b, 1, none⟩ (.int .i64 aD)).setCell ⟨b, 2, none⟩ (.slice aM ag.length aO)).setCell ⟨b, 3, none⟩ (.int .i64 aE)).setCell ⟨b, 4, none⟩ (.bool aF)).setCell ⟨b, 5, none⟩ (.bool aG)).heap[m]? = some (.cells #[.int .i64 ax, .int .i64 ay, .slice a2 Y.length a4, .int .i64 az, .bool aA, .bool aB] 24 (0, 0))) := ⟨by (with_reducible repeat apply pK); exact blk_off I.out bH.out off2_⟩
            have ap : Aside0 (((((((w64.setCell ⟨b, 0, none⟩ (.int .i64 aC)).setCell ⟨b, 1, none⟩ (.int .i64 aD)).setCell ⟨b, 2, none⟩ (.slice aM ag.length aO)).setCell ⟨b, 3, none⟩ (.int .i64 aE)).setCell ⟨b, 4, none⟩ (.bool aF)).setCell ⟨b, 5, none⟩ (.bool aG)).heap[b]? = some (.cells #[.int .i64 aC, .int .i64 aD, .slice aM ag.length aO, .int .i64 aE, .bool aF, .bool aG] 24 (0, 0))) := ⟨put6 aI.out⟩
            have aq : Aside0 (Below w.heap.size w ((((((w64.setCell ⟨b, 0, none⟩ (.int .i64 aC)).setCell ⟨b, 1, none⟩ (.int .i64 aD)).setCell ⟨b, 2, none⟩ (.slice aM ag.length aO)).setCell ⟨b, 3, none⟩ (.int .i64 aE)).setCell ⟨b, 4, none⟩ (.bool aF)).setCell ⟨b, 5, none⟩ (.bool aG))) := ⟨bl_⟩
            (try clear HO_1141002)
            (try clear HO_1155002)
            (try clear HO_1168002)
            (try clear ah)
            (try clear ao)
            (try clear a)
            (try clear d)
            (try clear j)
            (try clear I)
            (try clear aI)
            (try clear HB)
            generalize ((((((w64.setCell ⟨b, 0, none⟩ (.int .i64 aC)).setCell ⟨b, 1, none⟩ (.int .i64 aD)).setCell ⟨b, 2, none⟩ (.slice aM ag.length aO)).setCell ⟨b, 3, none⟩ (.int .i64 aE)).setCell ⟨b, 4, none⟩ (.bool aF)).setCell ⟨b, 5, none⟩ (.bool aG)) = g1 at A B G L P U W X aa ap aq ⊢
            have HO_1141002 := A
            have HO_1155002 := B
            have HO_1168002 := G
            have ah := L
            have ao := P
            have a := U
            have d := W
            have j := X
            have I := aa
            have aI := ap
            have HB := aq
            clear A B G L P U W X aa ap aq
            have A := Z (Kd.V_drew HO_1141002.out)
            have B := Z (Kd.V_drew HO_1155002.out)
            have G := Z (Kd.V_drew HO_1168002.out)
            have L := Z (Kd.V_drew ah.out)
            have P := Z (Kd.V_drew ao.out)
            have U := Z (blk_drew a.out)
            have W := Z (blk_drew d.out)
            have X := Z (blk_drew j.out)
            have aa := Z (blk_drew I.out)
            have ap := Z (blk_drew aI.out)
            have aq := Z (below_drew1 HB.out)
            clear HO_1141002
            clear HO_1155002
            clear HO_1168002
            clear ah
            clear ao
            clear a
            clear d
            clear j
            clear I
            clear aI
            clear HB
            have HO_1141002 := A
            have HO_1155002 := B
            have HO_1168002 := G
            have ah := L
            have ao := P
            have a := U
            have d := W
            have j := X
            have I := aa
            have aI := ap
            have HB := aq
            clear A B G L P U W X aa ap aq
            refine start_ (n := 11) (S := fun w' => w'.cell? ⟨z, 0, none⟩ = some (.int .i64 ab) ∧ w'.cell? ⟨z, 1, none⟩ = some (.int .i64 ac) ∧ w'.cell? ⟨z, 2, none⟩ = some (.slice bj T.length bm) ∧ w'.cell? ⟨z, 3, none⟩ = some (.int .i64 ad) ∧ w'.cell? ⟨z, 4, none⟩ = some (.bool ae) ∧ w'.cell? ⟨z, 5, none⟩ = some (.bool af) ∧ w'.cell? ⟨l, 0, none⟩ = some (.int .i64 D) ∧ w'.cell? ⟨l, 1, none⟩ = some (.int .i64 E) ∧ w'.cell? ⟨l, 2, none⟩ = some (.slice aR q.length aK) ∧ w'.cell? ⟨l, 3, none⟩ = some (.int .i64 s) ∧ w'.cell? ⟨l, 4, none⟩ = some (.bool false) ∧ w'.cell? ⟨l, 5, none⟩ = some (.bool true)) (ds := []) (bv 11 0) (by kernel_rfl) rfl rfl ⟨(blk_cell j.out 0).trans rfl, (blk_cell j.out 1).trans rfl, (blk_cell j.out 2).trans rfl, (blk_cell j.out 3).trans rfl, (blk_cell j.out 4).trans rfl, (blk_cell j.out 5).trans rfl, (blk_cell a.out 0).trans rfl, (blk_cell a.out 1).trans rfl, (blk_cell a.out 2).trans rfl, (blk_cell a.out 3).trans rfl, (blk_cell a.out 4).trans rfl, (blk_cell a.out 5).trans rfl⟩ (fun hHeld => ?_); refine with_tabW shutterlaw16_WipeUndoes.tab20 shutterlaw16_WipeUndoes.bits20 (fun HT_ HW_ => ?_)
            generalize g1.drew = ih at HO_1141002 HO_1155002 HO_1168002 ah ao a d j I aI HB hHeld ⊢
            refine pure_ (i := 2) (N := some 86) (v := ?_) (a' := ?_) (bv 11 4) rfl rfl (any_of HT_.out (by kernel_rfl)) (fun _ _ _ h => h) (Or.inl ⟨by rfl, ?_⟩) ?_ ?_
            rotate_left
            ·intro w'
             go_simp
             with_reducible rfl
            rotate_left
            ·simp only [Act.put, sA, sB, sC, i64_w, i32_w]
             rfl
            refine take_ (i := 0) (N := some 84) (v := ?_) (a' := ?_) (bv 11 5) rfl rfl (take_ofW HT_.out HW_.out (by kernel_rfl)) (fun _ _ _ h => h) (Or.inl ⟨by rfl, ?_⟩) hHeld ?_ ?_
            rotate_left
            ·rintro w' ⟨s0, s1, s2, s3, s4, s5, s6, s7, s8, s9, bN, bO⟩
             go_simp
             with_reducible rfl
            rotate_left
            ·simp only [Act.put, sA, sB, sC, i64_w, i32_w]
             rfl
            refine take_ (i := 1) (N := some 85) (v := ?_) (a' := ?_) (bv 11 7) rfl rfl (take_ofW HT_.out HW_.out (by kernel_rfl)) (fun _ _ _ h => h) (Or.inl ⟨by rfl, ?_⟩) hHeld ?_ ?_
            rotate_left
            ·rintro w' ⟨s0, s1, s2, s3, s4, s5, s6, s7, s8, s9, bN, bO⟩
             go_simp
             with_reducible rfl
            rotate_left
            ·simp only [Act.put, sA, sB, sC, i64_w, i32_w]
             rfl
            refine take_ (i := 3) (N := some 87) (v := ?_) (a' := ?_) (bv 11 15) rfl rfl (take_ofW HT_.out HW_.out (by kernel_rfl)) (fun _ _ _ h => h) (Or.inl ⟨by rfl, ?_⟩) hHeld ?_ ?_
            rotate_left
            ·rintro w' ⟨s0, s1, s2, s3, s4, s5, s6, s7, s8, s9, bN, bO⟩
             go_simp
             with_reducible rfl
            rotate_left
            ·simp only [Act.put, sA, sB, sC, i64_w, i32_w]
             rfl
            refine one_ (i := 4) (N := some 88) (bv 11 31) rfl rfl (one_of HT_.out (by kernel_rfl)) (by decide) (fun K hK => ?_)
            refine goes_ Tryd.func36 (by kernel_rfl) rfl #[.agg #[.int .i64 D, .int .i64 E, .slice aR q.length aK, .int .i64 s, .bool false, .bool true], .int .i64 s] (by rfl) rfl rfl ag_ ?_
            with_reducible refine (edit_Modify.calls D E _ _ q s false true s bS bT bU bV bW bX _ ?side1 ?side2 gM.out).mono ?_
            (case side1 => repeat (first | exact (Kd.C_below bb.out HB.out) | (with_reducible apply pC)))
            (case side2 => exact bw.out)
            rintro e ii ⟨hJ, rfl, aQ, hb⟩
            refine ⟨_, rfl, ?_⟩
            have A := Z (Kd.V_elder' (by (with_reducible repeat apply pV); exact HO_1141002.out) (Kd.R_base aQ) hb)
            have B := Z (Kd.V_elder' (by (with_reducible repeat apply pV); exact HO_1155002.out) (Kd.R_base aQ) hb)
            have G := Z (Kd.V_elder' (by (with_reducible repeat apply pV); exact HO_1168002.out) (Kd.R_base aQ) hb)
            have L := Z (Kd.V_elder' (by (with_reducible repeat apply pV); exact ah.out) (Kd.R_base aQ) hb)
            have P := Z (Kd.V_elder' (by (with_reducible repeat apply pV); exact ao.out) (Kd.R_base aQ) hb)
            have U := Z (Kd.R_lower aQ (below_size bl_))
            have W := Z (kb a.out hb)
            have X := Z (kb d.out hb)
            have aa := Z (kb j.out hb)
            have ap := Z (kb I.out hb)
            have aq := Z (kb aI.out hb)
            have aW := Z (below_step bl_ hb)
            clear HO_1141002
            clear HO_1155002
            clear HO_1168002
            clear ah
            clear ao
            clear a
            clear d
            clear j
            clear I
            clear aI
            clear HB
            have HO_1141002 := A
            have HO_1155002 := B
            have HO_1168002 := G
            have ah := L
            have ao := P
            have bo := U
            have a := W
            have d := X
            have j := aa
            have I := ap
            have aI := aq
            have HB := aW
            clear A B G L P U W X aa ap aq aW
            (try clear hb)
            (try clear bq)
            (try clear hk)
            (try clear hi)
            (try clear aQ)
            obtain ⟨fo, fp, e4⟩ := Kd.R_slice bo.out
            (first | subst e4 | (injection e4 with fl gV fm; have gW := fl.symm; have gX := fm.symm; clear fl gV fm; subst gW; subst gX))
            refine hK.out _ _ ⟨(blk_cell j.out 0).trans rfl, (blk_cell j.out 1).trans rfl, (blk_cell j.out 2).trans rfl, (blk_cell j.out 3).trans rfl, (blk_cell j.out 4).trans rfl, (blk_cell j.out 5).trans rfl, (blk_cell a.out 0).trans rfl, (blk_cell a.out 1).trans rfl, (blk_cell a.out 2).trans rfl, (blk_cell a.out 3).trans rfl, (blk_cell a.out 4).trans rfl, (blk_cell a.out 5).trans rfl⟩ (fun hHeld => ?_)
            clear hK K
            refine norm_ (a' := ?_) ?_ ?_
            rotate_left
            ·show Act.put _ (some 88) _ = _
             simp only [Act.put, sA, sB, sC, i64_w, i32_w]
             rfl
            refine one_ (i := 5) (N := some 89) (bv 11 63) rfl rfl (one_of HT_.out (by kernel_rfl)) (by decide) (fun K hK => ?_)
            refine goes_ Tryd.func24 (by kernel_rfl) rfl #[.agg #[.int .i64 ab, .int .i64 ac, .slice bj T.length bm, .int .i64 ad, .bool ae, .bool af], .agg #[.int .i64 bS, .int .i64 bT, .slice fo bU.length fp, .int .i64 bV, .bool bW, .bool bX]] (by rfl) rfl rfl ag_ ?_
            with_reducible refine (shutterref10_Same.calls bM ab ac _ _ T ad ae af bS bT _ _ bU bV bW bX true _ ?side1 ?side2 ?side3 ?side4 gN.out).mono ?_
            (case side1 => repeat (first | exact (Kd.V_reads' HO_1155002.out).2.2 | (with_reducible apply pC)))
            (case side2 => exact (Kd.V_reads' HO_1155002.out).2.1)
            (case side3 => repeat (first | exact (Kd.R_reads' bo.out).2.2 | (with_reducible apply pC)))
            (case side4 => exact (Kd.R_reads' bo.out).2.1)
            rintro e ij ⟨rfl, hb⟩
            refine ⟨_, rfl, ?_⟩
            have A := Z (vb HO_1141002.out hb)
            have B := Z (vb HO_1155002.out hb)
            have G := Z (vb HO_1168002.out hb)
            have L := Z (vb ah.out hb)
            have P := Z (vb ao.out hb)
            have U := Z (rb bo.out hb)
            have W := Z (kb a.out hb)
            have X := Z (kb d.out hb)
            have aa := Z (kb j.out hb)
            have ap := Z (kb I.out hb)
            have aq := Z (kb aI.out hb)
            have aW := Z (below_step bl_ hb)
            clear HO_1141002
            clear HO_1155002
            clear HO_1168002
            clear ah
            clear ao
            clear bo
            clear a
            clear d
            clear j
            clear I
            clear aI
            clear HB
            have HO_1141002 := A
            have HO_1155002 := B
            have HO_1168002 := G
            have ah := L
            have ao := P
            have bo := U
            have a := W
            have d := X
            have j := aa
            have I := ap
            have aI := aq
            have HB := aW
            clear A B G L P U W X aa ap aq aW
            (try clear hb)
            (try clear bq)
            (try clear hk)
            (try clear hi)
            refine hK.out _ _ ⟨(blk_cell j.out 0).trans rfl, (blk_cell j.out 1).trans rfl, (blk_cell j.out 2).trans rfl, (blk_cell j.out 3).trans rfl, (blk_cell j.out 4).trans rfl, (blk_cell j.out 5).trans rfl, (blk_cell a.out 0).trans rfl, (blk_cell a.out 1).trans rfl, (blk_cell a.out 2).trans rfl, (blk_cell a.out 3).trans rfl, (blk_cell a.out 4).trans rfl, (blk_cell a.out 5).trans rfl⟩ (fun hHeld => ?_)
            clear hK K
            refine norm_ (a' := ?_) ?_ ?_
            rotate_left
            ·show Act.put _ (some 89) _ = _
             simp only [Act.put, sA, sB, sC, i64_w, i32_w]
             rfl
            refine pure_ (i := 6) (N := some 90) (v := ?_) (a' := ?_) (bv 11 127) rfl rfl (any_of HT_.out (by kernel_rfl)) (fun _ _ _ h => h) (Or.inl ⟨by rfl, ?_⟩) ?_ ?_
            rotate_left
            ·intro w'
             go_simp
             with_reducible rfl
            rotate_left
            ·simp only [Act.put, sA, sB, sC, i64_w, i32_w]
             rfl
            refine pure_ (i := 7) (N := some 91) (v := ?_) (a' := ?_) (bv 11 255) rfl rfl (any_of HT_.out (by kernel_rfl)) (fun _ _ _ h => h) (Or.inl ⟨by rfl, ?_⟩) ?_ ?_
            rotate_left
            ·intro w'
             go_simp
             with_reducible rfl
            rotate_left
            ·simp only [Act.put, sA, sB, sC, i64_w, i32_w]
             rfl
            refine pure_ (i := 8) (N := some 92) (v := ?_) (a' := ?_) (bv 11 511) rfl rfl (any_of HT_.out (by kernel_rfl)) (fun _ _ _ h => h) (Or.inl ⟨by rfl, ?_⟩) ?_ ?_
            rotate_left
            ·intro w'
             go_simp
             with_reducible rfl
            rotate_left
            ·simp only [Act.put, sA, sB, sC, i64_w, i32_w]
             rfl
            refine pure_ (i := 9) (N := some 93) (v := ?_) (a' := ?_) (bv 11 1023) rfl rfl (any_of HT_.out (by kernel_rfl)) (fun _ _ _ h => h) (Or.inl ⟨by rfl, ?_⟩) ?_ ?_
            rotate_left
            ·intro w'
             go_simp
             with_reducible rfl
            rotate_left
            ·simp only [Act.put, sA, sB, sC, i64_w, i32_w]
             rfl
            refine pure_ (i := 10) (N := some 4) (v := ?_) (a' := ?_) (bv 11 2047) rfl rfl (any_of HT_.out (by kernel_rfl)) (fun _ _ _ h => h) (Or.inl ⟨by rfl, ?_⟩) ?_ ?_
            rotate_left
            ·intro w'
             go_simp
             with_reducible rfl
            rotate_left
            ·simp only [Act.put, sA, sB, sC, i64_w, i32_w]
             rfl
            refine done_ (done_of HT_.out (by kernel_rfl)) ?_
            try go_wp2
            go_ret
            exact ⟨by first | rfl | (simp [errW_none, errW_some] <;> rfl) | (simp [*, errW_none, errW_some] <;> rfl), bl_⟩
           ·have H1 : (none) = some r := by rw [if_neg (show ¬ (some e9).isNone = true by simp)] at H; exact H
            clear H
            have H := H1
            clear H1
            try simp only [errW_none, errW_some]
            exact absurd H (by simp)
          ·replace c8 := Bool.eq_false_iff.mpr c8
           subst c8
           have H1 : (none) = some r := by rw [if_neg (show ¬ (false = true) by decide)] at H; exact H
           clear H
           have H := H1
           clear H1
           exact absurd H (by simp)
      ·have H1 : (some true) = some r := by rw [if_neg (show ¬ (some cG).isNone = true by simp)] at H; exact H
       clear H
       have H := H1
       clear H1
       try simp only [errW_none, errW_some]
       obtain rfl := Option.some.inj H
       obtain ⟨eX, e3, fx, _⟩ := Kd.Q_slice HO_5.out
       subst fx
       obtain ⟨fL, fM, fN, fO, fP, fQ, gq, gr, gs, gt, gu, gv⟩ := cells6 a.out
       go_wp2_with (first | ((with_reducible refine gate_callee (f := 31) rfl ?_); refine goesL_ (some 54) rfl rfl Tryd.func31 (by kernel_rfl) rfl #[.agg #[.int .i64 D, .int .i64 E, .slice aR q.length aK, .int .i64 s, .bool false, .bool true], .int .u8 a1] rfl ag_ ?_; (with_reducible refine (edit_Type.calls k1 D E (fun k_ => k_ < w.heap.size) _ _ q s false true a1 ar au R bx av aw (some cG) bI _ ?side1 fg.out).mono ?_); (case side1 => exact Kd.V_mk bw.out (Kd.F_below (Kd.C_F k35_heap bb.out) bl_)); rintro e ik ⟨fd, bY, rfl, aQ, bc, hb⟩; refine ⟨_, rfl, ?_⟩; have A := Z (Kd.Q_below (by (with_reducible repeat (first | apply Kd.Q_alloc | apply Kd.Q_drewN | apply Kd.Q_drew)); exact HO_5.out) hb); have B := Z (Kd.V_lower (Kd.V_mono (ok' := fun k_ => some k_ ≠ (.slice eX c.length e3 : Value).ownBlock ∧ k_ ≠ l) aQ (fun k_ hk_ => ⟨Or.elim hk_ (fun hs_ => fun e_ => Nat.not_le.2 hs_ (Kd.Q_base HO_5.out k_ e_.symm)) (fun hn_ => (Kd.fresh' (Kd.Q_lt (by (with_reducible repeat (first | apply Kd.Q_alloc | apply Kd.Q_drewN | apply Kd.Q_drew)); exact HO_5.out)) k_ hn_)), Or.elim hk_ (fun hs_ => fun e_ => Nat.not_le.2 hs_ (by rw [e_]; exact br.out)) (fun hn_ => (fb a.out k_ hn_))⟩)) (below_size bl_)); have G := Z (Kd.V_lower (Kd.V_mono (ok' := fun k_ => some k_ ≠ (.slice eX c.length e3 : Value).ownBlock ∧ k_ ≠ l) bc (fun k_ hk_ => ⟨Or.elim hk_ (fun hs_ => fun e_ => Nat.not_le.2 hs_ (Kd.Q_base HO_5.out k_ e_.symm)) (fun hn_ => (Kd.fresh' (Kd.Q_lt (by (with_reducible repeat (first | apply Kd.Q_alloc | apply Kd.Q_drewN | apply Kd.Q_drew)); exact HO_5.out)) k_ hn_)), Or.elim hk_ (fun hs_ => fun e_ => Nat.not_le.2 hs_ (by rw [e_]; exact br.out)) (fun hn_ => (fb a.out k_ hn_))⟩)) (below_size bl_)); have L := Z (kb a.out hb); have P := Z (below_step bl_ hb); clear HO_5 a HB; have HO_5 := A; have F := B; have J := G; have a := L; have HB := P; clear A B G L P; (try clear hb); (try clear bq); (try clear hk); (try clear hi); (try clear aQ); (try clear bc); (try simp only [errW_none, errW_some])) | ((with_reducible refine gate_dst (N := 7) rfl ?_); refine box_event ?hg (N := 7) ?hd (cs := #[.int .i64 0, .int .i64 0, .slice none 0 0, .int .i64 0, .bool false, .bool false]) (t := 24) ?hr ?_; (case hd => rfl); (case hg => rfl); (case hr => first | (go_simp; done) | (go_simp; rfl)); intro x hg il hbox hb; have A := Z (Kd.Q_below (by (with_reducible repeat (first | apply Kd.Q_alloc | apply Kd.Q_drewN | apply Kd.Q_drew)); exact HO_5.out) hb); have B := Z (ve F.out hg hb); have G := Z (ve J.out hg hb); have L := Z (kb a.out hb); have P := Z (below_step bl_ hb); have U := Z (hbox); have W := Z ((le_new hg (below_size bl_) : w.heap.size ≤ x)); have X := Z ((le_new hg (below_size bl_) : w.heap.size ≤ x)); have aa := Z (nl a.out hg); have ap := Z (ng a.out hg); clear HO_5 F J a HB; have HO_5 := A; have F := B; have J := G; have a := L; have HB := P; have d := U; have e0 := W; have eZ := X; have aT := aa; have bk := ap; clear A B G L P U W X aa ap; clear hb hbox hg; have hl := bk.out; have hD := aT.out; obtain ⟨fR, fS, fT, fU, fV, fW, gw, gx, gy, gz, gA, gB⟩ := cells6 d.out; obtain ⟨hO, hS, fy⟩ := Kd.V_slice F.out; subst fy))
       go_ret
       exact ⟨by first | rfl | (simp [errW_none, errW_some] <;> rfl) | (simp [*, errW_none, errW_some] <;> rfl), bl_⟩
  ·replace c6 := Bool.eq_false_iff.mpr c6
   subst c6
   have H1 : ((shutterlaw16_awake.f k).bind fun aS => (some aS)) = some r := by rw [if_neg (show ¬ (false = true) by decide)] at H; exact H
   clear H
   have H := H1
   clear H1
   replace H := Option.bind_eq_some_iff.mp H
   obtain ⟨aS, eW, H⟩ := H
   replace H : (some aS) = some r := H
   have fk := Z eW
   clear eW
   obtain rfl := Option.some.inj H
   go_enter Tryd.func12, Tryd.ntmps12
   go_wp2_with (first | ((with_reducible refine gate_dst (N := 2) rfl ?_); refine box_event ?hg (N := 2) ?hd (cs := #[.int .i64 D, .int .i64 E, .slice aR q.length aK, .int .i64 s, .bool a3, .bool bl]) (t := 24) ?hr ?_; (case hd => rfl); (case hg => rfl); (case hr => first | (go_simp; done) | (go_simp; rfl)); intro l hg im hbox hb; have A := Z (below_step bl_ hb); have B := Z (hbox); have G := Z ((le_new hg (below_size bl_) : w.heap.size ≤ l)); have L := Z ((le_new hg (below_size bl_) : w.heap.size ≤ l)); clear HB; have HB := A; have a := B; have br := G; have eY := L; clear A B G L; clear hb hbox hg) | ((with_reducible refine gate_callee (f := 17) rfl ?_); refine goesL_ (some 15) rfl rfl Tryd.func17 (by kernel_rfl) rfl #[] rfl ag_ ?_; (with_reducible refine (shutterlaw16_awake.calls k  true _ ?sideG A3.out).mono ?_); (case sideG => exact laidG_below HG.out bl_ rfl); rintro e io ⟨rfl, hb⟩; refine ⟨_, rfl, ?_⟩; have A := Z (kb a.out hb); have B := Z (below_step bl_ hb); clear a HB; have a := A; have HB := B; clear A B; (try clear hb); (try clear bq); (try clear hk); (try clear hi); obtain ⟨fX, fY, fZ, ga, gb, gc, gC, gD, gE, gF, gG, gH⟩ := cells6 a.out) | (go_at_call 18; (with_reducible refine (shutterref10_Few.calls k D E _ _ q s a3 bl false _ ?side1 ?side2 A5.out).mono ?_); (case side1 => repeat (first | exact (Kd.C_below bb.out HB.out) | (with_reducible apply pC))); (case side2 => exact bw.out); rintro e ip ⟨rfl, hb⟩; have A := Z (kb a.out hb); have B := Z (below_step bl_ hb); clear a HB; have a := A; have HB := B; clear A B; (try clear hb); (try clear bq); (try clear hk); (try clear hi)) | ((with_reducible refine gate_callee (f := 17) rfl ?_); refine goesL_ (some 22) rfl rfl Tryd.func17 (by kernel_rfl) rfl #[] rfl ag_ ?_; (with_reducible refine (shutterlaw16_awake.calls k  aS _ ?sideG fk.out).mono ?_); (case sideG => exact laidG_below HG.out bl_ rfl); rintro e iq ⟨rfl, hb⟩; refine ⟨_, rfl, ?_⟩; have A := Z (kb a.out hb); have B := Z (below_step bl_ hb); clear a HB; have a := A; have HB := B; clear A B; (try clear hb); (try clear bq); (try clear hk); (try clear hi)))
   go_ret
   have e_ : aS = true := Option.some.inj (fk.out.symm.trans A3.out)
   exact ⟨by first | rfl | (simp [errW_none, errW_some] <;> rfl) | (simp [*, errW_none, errW_some] <;> rfl), bl_⟩
 ·replace c4 := Bool.eq_false_iff.mpr c4
  subst c4
  have H1 : (none) = some r := by rw [if_neg (show ¬ (false = true) by decide)] at H; exact H
  clear H
  have H := H1
  clear H1
  exact absurd H (by simp)

end Go.Proofs.YtggecanpjkpkiaaDoor.P
