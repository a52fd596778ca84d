/- pp.py and press2.py (wip/tools) wrote this text. -/
import Derived.Test.YtgboplhcjhlabaaDoorPx0
import Derived.Test.YtgboplhcjhlabaaDoorPxS
namespace Go.Proofs.YtgboplhcjhlabaaDoor.P
open Go.RowKit Go.Proofs.YtgboplhcjhlabaaDoorW.PrintWords Go.Proofs.YtgboplhcjhlabaaDoorW.PrintLast Go.Proofs.YtgboplhcjhlabaaDoorW.PrintMore
attribute [local go_sem] max2_int min2_int max_two min_two max_three min_three max_four min_four
attribute [local go_sem] Instr.field asAgg
set_option linter.unusedVariables false
set_option linter.unusedSimpArgs false

/-! ### shutterref11_mod: function 52 -/
def shutterref11_mod.l0 : Nat → Int → Int → Option (Int)
 | 0, _, _ => none
 | k + 1, b, a => if b < 0 then (shutterref11_mod.l0 k (wrap64 (b + a)) a) else (if a = 0 then (none) else (some (Int.tmod b a)))
def shutterref11_mod.f (k : Nat) (a0 : Int) (a1 : Int) : Option (Int) := shutterref11_mod.l0 k a0 a1
theorem shutterref11_mod.mono_l : ∀ k, (∀ b c, LeO (shutterref11_mod.l0 k b c) (shutterref11_mod.l0 (k + 1) b c))
 | 0 => fun _ _ r h => by simp [shutterref11_mod.l0] at h
 | k + 1 => by
  have a := shutterref11_mod.mono_l k
  ·intro b c
   unfold shutterref11_mod.l0
   repeat' first
   | (with_reducible exact a _ _)
   | (with_reducible exact LeO.refl _)
   | (with_reducible exact LeO.none _)
   | (with_reducible refine LeO.ite ?_ ?_)
   | (with_reducible refine LeO.bind ?_ (fun _ => ?_))
   | exact a _ _
   | exact LeO.none _
   | refine LeO.ite ?_ ?_
   | refine LeO.bind ?_ (fun _ => ?_)
theorem shutterref11_mod.mono : ∀ a0 a1 k, LeO (shutterref11_mod.f k a0 a1) (shutterref11_mod.f (k + 1) a0 a1) := by
 intro a0 a1 k
 have a := shutterref11_mod.mono_l k
 unfold shutterref11_mod.f
 repeat' first
   | (with_reducible exact a _ _)
   | (with_reducible exact LeO.refl _)
   | (with_reducible exact LeO.none _)
   | (with_reducible refine LeO.ite ?_ ?_)
   | (with_reducible refine LeO.bind ?_ (fun _ => ?_))
   | exact a _ _
   | exact LeO.none _
   | refine LeO.ite ?_ ?_
   | refine LeO.bind ?_ (fun _ => ?_)
set_option maxHeartbeats 8000000 in
set_option maxRecDepth 100000 in
theorem shutterref11_mod.calls (k : Nat) (a0 : Int) (a1 : Int) (r : Int) (w : World) (h : shutterref11_mod.f k a0 a1 = some r) :
  Calls Tryd.prog 52 #[.int .i64 a0, .int .i64 a1] w fun e w' => e = .returned (.int .i64 r) ∧ Drawn0 w w' := by
 have H : (shutterref11_mod.l0 k a0 a1) = some r := h
 clear h
 have H' := Z H
 clear H
 go_enter Tryd.func52, Tryd.ntmps52
 go_wp2
 go_loopg [0] k (fun kq i w' => ∃ (a : Int), i = .int .i64 a ∧ Aside0 (shutterref11_mod.l0 kq a a1 = some r) ∧ Aside0 (kq ≤ k) ∧ Drawn0 w w')
 case atStart => exact ⟨(a0), (dn_), H', ⟨Nat.le_refl _⟩, dr_⟩
 case round =>
  clear H'
  try clear p2
  obtain ⟨a, rfl, HA, b, ⟨j, rfl⟩⟩ := hrel
  cases gk with
  | zero => exact absurd HA.out (by simp [shutterref11_mod.l0])
  | succ k1 =>
   have H := HA.out
   clear HA
   simp only [shutterref11_mod.l0] at H
   by_cases c3 : a < 0
   ·rw [if_pos c3] at H
    have c : decide (a < 0) = true := decide_eq_true c3
    clear c3
    have H' := Z H
    clear H
    go_wp2
    go_roundg k1
    case measure => have := b.out; omega
    case rel => exact ⟨(wrap64 (a + a1)), (dn_), H', ⟨by have := b.out; omega⟩, dr_⟩
   ·rw [if_neg c3] at H
    have c : decide (a < 0) = false := decide_eq_false c3
    clear c3
    by_cases c4 : a1 = 0
    ·rw [if_pos c4] at H
     exact absurd H (by simp)
    ·rw [if_neg c4] at H
     have d : (a1 == 0) = false := beq_eq_false_iff_ne.mpr c4
     have g : (a1 != 0) = true := bne_iff_ne.mpr c4
     obtain rfl := Option.some.inj H
     go_wp2
     go_ret
     exact ⟨dn_, dr_⟩

/-! ### shutterref11_Begin: function 73 -/
def shutterref11_Begin.l0 : Nat → Int → Int → Int → Int → List (S44) → Int → Bool → Bool → Option (Int)
 | 0, _, _, _, _, _, _, _, _ => none
 | k + 1, j, i, c, d, a, e, g, h => if i < (a.length : Int) then ((shutterref11_mod.f k (wrap64 (j - i)) (a.length : Int)).bind fun b => (if 0 ≤ b then (if b < (a.length : Int) then (if (rd_T44 a b).f0 = true then (some b) else (shutterref11_Begin.l0 k j (wrap64 (i + 1)) c d a e g h)) else (none)) else (none))) else (some (-1))
def shutterref11_Begin.f (k : Nat) (a : Int) (b : Int) (g : List (S44)) (c : Int) (d : Bool) (e : Bool) (a1 : Int) : Option (Int) := shutterref11_Begin.l0 k a1 0 a b g c d e
theorem shutterref11_Begin.mono_l : ∀ k, (∀ b c d e f g i j, LeO (shutterref11_Begin.l0 k b c d e f g i j) (shutterref11_Begin.l0 (k + 1) b c d e f g i j))
 | 0 => fun _ _ _ _ _ _ _ _ r h => by simp [shutterref11_Begin.l0] at h
 | k + 1 => by
  have a := shutterref11_Begin.mono_l k
  ·intro b c d e f g i j
   unfold shutterref11_Begin.l0
   repeat' first
   | (with_reducible exact a _ _ _ _ _ _ _ _)
   | (with_reducible exact shutterref11_mod.mono _ _ _)
   | (with_reducible exact LeO.refl _)
   | (with_reducible exact LeO.none _)
   | (with_reducible refine LeO.ite ?_ ?_)
   | (with_reducible refine LeO.bind ?_ (fun _ => ?_))
   | exact a _ _ _ _ _ _ _ _
   | exact shutterref11_mod.mono _ _ _
   | exact LeO.none _
   | refine LeO.ite ?_ ?_
   | refine LeO.bind ?_ (fun _ => ?_)
theorem shutterref11_Begin.mono : ∀ a0 a1 b c a4 d e k, LeO (shutterref11_Begin.f k a0 a1 b c a4 d e) (shutterref11_Begin.f (k + 1) a0 a1 b c a4 d e) := by
 intro a0 a1 b c a4 d e k
 have a := shutterref11_Begin.mono_l k
 unfold shutterref11_Begin.f
 repeat' first
   | (with_reducible exact a _ _ _ _ _ _ _ _)
   | (with_reducible exact shutterref11_mod.mono _ _ _)
   | (with_reducible exact LeO.refl _)
   | (with_reducible exact LeO.none _)
   | (with_reducible refine LeO.ite ?_ ?_)
   | (with_reducible refine LeO.bind ?_ (fun _ => ?_))
   | exact a _ _ _ _ _ _ _ _
   | exact shutterref11_mod.mono _ _ _
   | exact LeO.none _
   | refine LeO.ite ?_ ?_
   | refine LeO.bind ?_ (fun _ => ?_)
set_option maxHeartbeats 8000000 in
set_option maxRecDepth 100000 in
theorem shutterref11_Begin.calls (k : Nat) (n : Int) (o : Int) (z : Option Addr) (A : Nat) (a : List (S44)) (p : Int) (q : Bool) (s : Bool) (a1 : Int) (r : Int) (w : World) (I : Kd.C k44 w z a.length a) (G : a.length ≤ A) (h : shutterref11_Begin.f k n o a p q s a1 = some r) :
  Calls Tryd.prog 73 #[.agg #[.int .i64 n, .int .i64 o, .slice z a.length A, .int .i64 p, .bool q, .bool s], .int .i64 a1] w fun e w' => e = .returned (.int .i64 r) ∧ Below w.heap.size w w' := by
 have aM := Tryd.underlying24
 have F := Z I
 have aJ := Z G
 clear I G
 have HB := Z (Below.refl w.heap.size w)
 have H : (shutterref11_Begin.l0 k a1 0 n o a p q s) = some r := h
 clear h
 have H' := Z H
 clear H
 go_enter Tryd.func73, Tryd.ntmps73
 go_wp2_with (first | ((with_reducible refine gate_dst (N := 2) rfl ?_); refine bx_ 2 24 #[.int .i64 n, .int .i64 o, .slice z a.length A, .int .i64 p, .bool q, .bool s] ?_; intro B hg w3 hbox hb; have v := Z (hbox); have aI := Z (ln_ hg : w.heap.size ≤ B); have aH := Z (ln_ hg : w.heap.size ≤ B); replace HB := Z (below_step bl_ hb); clear hb hbox hg))
 go_loopg [5] k (fun kq v5 w' => ∃ (j : Int), v5 = .int .i64 j ∧ Aside0 (shutterref11_Begin.l0 kq a1 j n o a p q s = some r) ∧ Aside0 (kq ≤ k) ∧ Aside0 (w'.heap[B]? = some (.cells #[.int .i64 n, .int .i64 o, (.slice z a.length A), .int .i64 p, .bool q, .bool s] 24 (0, 0))) ∧ Aside0 (Below w.heap.size w w'))
 case atStart => exact ⟨(0), (dn_), H', ⟨Nat.le_refl _⟩, ⟨vK v.out⟩, ⟨bl_⟩⟩
 case round =>
  clear H'
  try clear p2
  obtain ⟨j, rfl, HA, L, v, HB⟩ := hrel
  cases gk with
  | zero => exact absurd HA.out (by simp [shutterref11_Begin.l0])
  | succ k1 =>
   have H := HA.out
   clear HA
   simp only [shutterref11_Begin.l0] at H
   by_cases c4 : j < (a.length : Int)
   ·rw [if_pos c4] at H
    have S : decide (j < (a.length : Int)) = true := decide_eq_true c4
    clear c4
    replace H := Option.bind_eq_some_iff.mp H
    obtain ⟨b, K, H⟩ := H
    replace H : (if 0 ≤ b then (if b < (a.length : Int) then (if (rd_T44 a b).f0 = true then (some b) else (shutterref11_Begin.l0 k1 a1 (wrap64 (j + 1)) n o a p q s)) else (none)) else (none)) = some r := H
    have A5 := Z K
    clear K
    by_cases c6 : 0 ≤ b
    ·rw [if_pos c6] at H
     have aK : decide (0 ≤ b) = true := decide_eq_true c6
     clear c6
     by_cases c7 : b < (a.length : Int)
     ·rw [if_pos c7] at H
      have aL : decide (b < (a.length : Int)) = true := decide_eq_true c7
      clear c7
      obtain ⟨M, E⟩ : ∃ b_ : Bool, b_ = ((rd_T44 a b).f0) := ⟨_, rfl⟩
      replace H : (if M = true then (some b) else (shutterref11_Begin.l0 k1 a1 (wrap64 (j + 1)) n o a p q s)) = some r := by rw [← E] at H; exact H
      have u := Z E
      clear E
      by_cases c9 : M = true
      ·subst c9
       have H1 : (some b) = some r := by rw [if_pos rfl] at H; exact H
       clear H
       have H := H1
       clear H1
       obtain rfl := Option.some.inj H
       obtain ⟨T, U, V, W, X, Y, am, an, ao, ap, aq, ar⟩ := cells6 v.out
       go_wp2_with (first | ((with_reducible refine gate_callee (f := 52) rfl ?_); refine goesL_ (some 20) rfl rfl Tryd.func52 (by kernel_rfl) rfl #[.int .i64 (wrap64 (a1 - j)), .int .i64 (a.length : Int)] rfl ag_ ?_; (with_reducible refine (shutterref11_mod.calls k1 (wrap64 (a1 - j)) (a.length : Int) b _ A5.out).mono ?_); rintro e w' ⟨rfl, ⟨nd, rfl⟩⟩; refine ⟨_, rfl, ?_⟩; have x : 0 ≤ (b : Int) := od_; have y : b < (a.length : Int) := od_; obtain ⟨J, D, c, d, g, l, i, m⟩ := at_T44 F.out b x y; (try rw [← u.out] at c); (try rw [← u.out] at d); (try rw [← u.out] at g); (try rw [← u.out] at i); cases D; replace c := (HB.out.cell (bk_ w _ c)).trans c; replace d := (HB.out.cell (bk_ w _ d)).trans d; replace g := (HB.out.cell (bk_ w _ g)).trans g; replace l := (HB.out.cell (bk_ w _ l)).trans l; replace i := (HB.out.cell (bk_ w _ i)).trans i; replace m := (HB.out.cell (bk_ w _ m)).trans m; replace x := eq_true x; replace y := eq_true y))
       go_ret
       exact ⟨er_, bl_⟩
      ·replace c9 := Bool.eq_false_iff.mpr c9
       subst c9
       have H1 : (shutterref11_Begin.l0 k1 a1 (wrap64 (j + 1)) n o a p q s) = some r := by rw [if_neg (show ¬ (false = true) by decide)] at H; exact H
       clear H
       have H := H1
       clear H1
       have H' := Z H
       clear H
       obtain ⟨aa, ab, ac, ad, ae, af, au, av, aw, ax, ay, az⟩ := cells6 v.out
       go_wp2_with (first | ((with_reducible refine gate_callee (f := 52) rfl ?_); refine goesL_ (some 20) rfl rfl Tryd.func52 (by kernel_rfl) rfl #[.int .i64 (wrap64 (a1 - j)), .int .i64 (a.length : Int)] rfl ag_ ?_; (with_reducible refine (shutterref11_mod.calls k1 (wrap64 (a1 - j)) (a.length : Int) b _ A5.out).mono ?_); rintro e w' ⟨rfl, ⟨nd, rfl⟩⟩; refine ⟨_, rfl, ?_⟩; have x : 0 ≤ (b : Int) := od_; have y : b < (a.length : Int) := od_; obtain ⟨J, D, c, d, g, l, i, m⟩ := at_T44 F.out b x y; (try rw [← u.out] at c); (try rw [← u.out] at d); (try rw [← u.out] at g); (try rw [← u.out] at i); cases D; replace c := (HB.out.cell (bk_ w _ c)).trans c; replace d := (HB.out.cell (bk_ w _ d)).trans d; replace g := (HB.out.cell (bk_ w _ g)).trans g; replace l := (HB.out.cell (bk_ w _ l)).trans l; replace i := (HB.out.cell (bk_ w _ i)).trans i; replace m := (HB.out.cell (bk_ w _ m)).trans m; replace x := eq_true x; replace y := eq_true y))
       go_roundg k1
       case measure => have := L.out; omega
       case rel => exact ⟨(wrap64 (j + 1)), (dn_), H', ⟨by have := L.out; omega⟩, ⟨vK v.out⟩, ⟨bl_⟩⟩
     ·rw [if_neg c7] at H
      exact absurd H (by simp)
    ·rw [if_neg c6] at H
     exact absurd H (by simp)
   ·rw [if_neg c4] at H
    have S : decide (j < (a.length : Int)) = false := decide_eq_false c4
    clear c4
    obtain rfl := Option.some.inj H
    obtain ⟨ag, ah, ai, aj, ak, al, aA, aB, aC, aD, aE, aF⟩ := cells6 v.out
    go_wp2
    go_ret
    exact ⟨er_, bl_⟩

/-! ### shutterref11_Of: function 47 -/
def shutterref11_Of.f (k : Nat) (c : Int) (d : Int) (b : List (S44)) (e : Int) (g : Bool) (h : Bool) (a1 : Int) : Option (Bool × Bool × Int × Bool) := (shutterref11_Begin.f k c d b e g h a1).bind fun a => (if a < 0 then (some (false, false, 0, false)) else (if 0 ≤ a then (if a < (b.length : Int) then (some ((rd_T44 b a).f1.f0, (rd_T44 b a).f1.f1, (rd_T44 b a).f1.f2, (rd_T44 b a).f1.f3)) else (none)) else (none)))
theorem shutterref11_Of.mono : ∀ a0 a1 a b a4 c d k, LeO (shutterref11_Of.f k a0 a1 a b a4 c d) (shutterref11_Of.f (k + 1) a0 a1 a b a4 c d) := by
 intro a0 a1 a b a4 c d k
 unfold shutterref11_Of.f
 repeat' first
   | (with_reducible exact shutterref11_Begin.mono _ _ _ _ _ _ _ _)
   | (with_reducible exact LeO.refl _)
   | (with_reducible exact LeO.none _)
   | (with_reducible refine LeO.ite ?_ ?_)
   | (with_reducible refine LeO.bind ?_ (fun _ => ?_))
   | exact shutterref11_Begin.mono _ _ _ _ _ _ _ _
   | exact LeO.none _
   | refine LeO.ite ?_ ?_
   | refine LeO.bind ?_ (fun _ => ?_)
set_option maxHeartbeats 8000000 in
set_option maxRecDepth 100000 in
theorem shutterref11_Of.calls (k : Nat) (l : Int) (m : Int) (x : Option Addr) (y : Nat) (b : List (S44)) (n : Int) (o : Bool) (p : Bool) (a1 : Int) (X : Bool) (Y : Bool) (r3 : Int) (r4 : Bool) (w : World) (S : Kd.C k44 w x b.length b) (R : b.length ≤ y) (h : shutterref11_Of.f k l m b n o p a1 = some (X, Y, r3, r4)) :
  Calls Tryd.prog 47 #[.agg #[.int .i64 l, .int .i64 m, .slice x b.length y, .int .i64 n, .bool o, .bool p], .int .i64 a1] w fun e w' => e = .returned (.agg #[.bool X, .bool Y, .int .i64 r3, .bool r4]) ∧ Below w.heap.size w w' := by
 have bh := Tryd.underlying24
 have bi := Tryd.underlying28
 have G := Z S
 have O := Z R
 clear S R
 have HB := Z (Below.refl w.heap.size w)
 have H : ((shutterref11_Begin.f k l m b n o p a1).bind fun a => (if a < 0 then (some (false, false, 0, false)) else (if 0 ≤ a then (if a < (b.length : Int) then (some ((rd_T44 b a).f1.f0, (rd_T44 b a).f1.f1, (rd_T44 b a).f1.f2, (rd_T44 b a).f1.f3)) else (none)) else (none)))) = some (X, Y, r3, r4) := h
 clear h
 replace H := Option.bind_eq_some_iff.mp H
 obtain ⟨a, ac, H⟩ := H
 replace H : (if a < 0 then (some (false, false, 0, false)) else (if 0 ≤ a then (if a < (b.length : Int) then (some ((rd_T44 b a).f1.f0, (rd_T44 b a).f1.f1, (rd_T44 b a).f1.f2, (rd_T44 b a).f1.f3)) else (none)) else (none))) = some (X, Y, r3, r4) := H
 have A3 := Z ac
 clear ac
 by_cases c4 : a < 0
 ·rw [if_pos c4] at H
  have ad : decide (a < 0) = true := decide_eq_true c4
  clear c4
  simp only [Option.some.injEq, Prod.mk.injEq] at H
  obtain ⟨rfl, rfl, rfl, rfl⟩ := H
  go_enter Tryd.func47, Tryd.ntmps47
  go_wp2_with (first | ((with_reducible refine gate_dst (N := 2) rfl ?_); refine bx_ 2 24 #[.int .i64 l, .int .i64 m, .slice x b.length y, .int .i64 n, .bool o, .bool p] ?_; intro v hg w5 hbox hb; have c := Z (hbox); have V := Z (ln_ hg : w.heap.size ≤ v); have T := Z (ln_ hg : w.heap.size ≤ v); replace HB := Z (below_step bl_ hb); clear hb hbox hg) | ((with_reducible refine gate_dst (N := 4) rfl ?_); refine bx_ 4 28 #[.bool false, .bool false, .int .i64 0, .bool false] ?_; intro q hg w6 hbox hb; have d := Z (hbox); have W := Z (ln_ hg : w.heap.size ≤ q); have U := Z (ln_ hg : w.heap.size ≤ q); replace HB := Z (below_step bl_ hb); have r := Z (nl c.out hg); have s := Z (ng c.out hg); replace c := Z (kb c.out hb); clear hb hbox hg; have bf := r.out; have bg := s.out; obtain ⟨aX, aY, aZ, a0, a2, a3, a4, a5, a6, a7, a8, a9⟩ := cells6 c.out) | ((with_reducible refine gate_callee (f := 73) rfl ?_); refine goesL_ (some 8) rfl rfl Tryd.func73 (by kernel_rfl) rfl #[.agg #[.int .i64 l, .int .i64 m, .slice x b.length y, .int .i64 n, .bool o, .bool p], .int .i64 a1] rfl ag_ ?_; (with_reducible refine (shutterref11_Begin.calls k l m _ _ b n o p a1 a _ ?side1 ?side2 A3.out).mono ?_); (case side1 => repeat (first | exact (Kd.C_below G.out HB.out) | (with_reducible apply pC))); (case side2 => exact O.out); rintro e w9 ⟨rfl, hb⟩; refine ⟨_, rfl, ?_⟩; replace c := Z (kb c.out hb); replace d := Z (kb d.out hb); replace HB := Z (below_step bl_ hb); (try clear hb); (try clear aW); (try clear hk); (try clear hi); obtain ⟨af, ag, ah, ai, aB, aC, aD, aE⟩ := cells4 d.out))
  refine bodyPost_ret (results_cell_row rfl _ _ q 28 #[.bool false, .bool false, .int .i64 0, .bool false] (0, 0) _ rfl (by (with_reducible repeat apply pK); refine blk_put (cs := #[.bool false, .bool false, .int .i64 0, .bool false]) ?_ 3 _ rfl; (with_reducible repeat apply pK); refine blk_put (cs := #[.bool false, .bool false, .int .i64 0, .bool false]) ?_ 2 _ rfl; (with_reducible repeat apply pK); refine blk_put (cs := #[.bool false, .bool false, .int .i64 0, .bool false]) ?_ 1 _ rfl; (with_reducible repeat apply pK); refine blk_put (cs := #[.bool false, .bool false, .int .i64 0, .bool false]) ?_ 0 _ rfl; (with_reducible repeat apply pK); exact d.out) Tryd.underlying28 rfl (by kernel_rfl)) rfl ?_
  exact ⟨er_, bl_⟩
 ·rw [if_neg c4] at H
  have ad : decide (a < 0) = false := decide_eq_false c4
  clear c4
  by_cases P : 0 ≤ a
  ·rw [if_pos P] at H
   have bb : decide (0 ≤ a) = true := decide_eq_true P
   clear P
   by_cases Q : a < (b.length : Int)
   ·rw [if_pos Q] at H
    have bc : decide (a < (b.length : Int)) = true := decide_eq_true Q
    clear Q
    simp only [Option.some.injEq, Prod.mk.injEq] at H
    obtain ⟨rfl, rfl, rfl, rfl⟩ := H
    go_enter Tryd.func47, Tryd.ntmps47
    go_wp2_with (first | ((with_reducible refine gate_dst (N := 2) rfl ?_); refine bx_ 2 24 #[.int .i64 l, .int .i64 m, .slice x b.length y, .int .i64 n, .bool o, .bool p] ?_; intro v hg bj hbox hb; have c := Z (hbox); have V := Z (ln_ hg : w.heap.size ≤ v); have T := Z (ln_ hg : w.heap.size ≤ v); replace HB := Z (below_step bl_ hb); clear hb hbox hg) | ((with_reducible refine gate_dst (N := 4) rfl ?_); refine bx_ 4 28 #[.bool false, .bool false, .int .i64 0, .bool false] ?_; intro q hg bk hbox hb; have d := Z (hbox); have W := Z (ln_ hg : w.heap.size ≤ q); have U := Z (ln_ hg : w.heap.size ≤ q); replace HB := Z (below_step bl_ hb); have r := Z (nl c.out hg); have s := Z (ng c.out hg); replace c := Z (kb c.out hb); clear hb hbox hg; have bd := r.out; have be := s.out; obtain ⟨aj, ak, al, am, an, ao, aF, aG, aH, aI, aJ, aK⟩ := cells6 c.out) | ((with_reducible refine gate_callee (f := 73) rfl ?_); refine goesL_ (some 8) rfl rfl Tryd.func73 (by kernel_rfl) rfl #[.agg #[.int .i64 l, .int .i64 m, .slice x b.length y, .int .i64 n, .bool o, .bool p], .int .i64 a1] rfl ag_ ?_; (with_reducible refine (shutterref11_Begin.calls k l m _ _ b n o p a1 a _ ?side1 ?side2 A3.out).mono ?_); (case side1 => repeat (first | exact (Kd.C_below G.out HB.out) | (with_reducible apply pC))); (case side2 => exact O.out); rintro e bl ⟨rfl, hb⟩; refine ⟨_, rfl, ?_⟩; replace c := Z (kb c.out hb); replace d := Z (kb d.out hb); replace HB := Z (below_step bl_ hb); (try clear hb); (try clear aW); (try clear hk); (try clear hi); obtain ⟨ap, aq, ar, au, av, aw, aL, aM, aN, aO, aP, aQ⟩ := cells6 c.out; have L : 0 ≤ (a : Int) := od_; have M : a < (b.length : Int) := od_; obtain ⟨ba, ae, z, A, B, D, E, F⟩ := at_T44 G.out a L M; cases ae; replace z := (HB.out.cell (bk_ w _ z)).trans z; replace A := (HB.out.cell (bk_ w _ A)).trans A; replace B := (HB.out.cell (bk_ w _ B)).trans B; replace D := (HB.out.cell (bk_ w _ D)).trans D; replace E := (HB.out.cell (bk_ w _ E)).trans E; replace F := (HB.out.cell (bk_ w _ F)).trans F; replace L := eq_true L; replace M := eq_true M; obtain ⟨ax, ay, az, aA, aR, aS, aT, aU⟩ := cells4 d.out))
    refine bodyPost_ret (results_cell_row rfl _ _ q 28 #[.bool ((rd_T44 b a).f1.f0), .bool ((rd_T44 b a).f1.f1), .int .i64 ((rd_T44 b a).f1.f2), .bool ((rd_T44 b a).f1.f3)] (0, 0) _ rfl (by (with_reducible repeat apply pK); refine blk_put (cs := #[.bool ((rd_T44 b a).f1.f0), .bool ((rd_T44 b a).f1.f1), .int .i64 ((rd_T44 b a).f1.f2), .bool false]) ?_ 3 _ rfl; (with_reducible repeat apply pK); refine blk_put (cs := #[.bool ((rd_T44 b a).f1.f0), .bool ((rd_T44 b a).f1.f1), .int .i64 0, .bool false]) ?_ 2 _ rfl; (with_reducible repeat apply pK); refine blk_put (cs := #[.bool ((rd_T44 b a).f1.f0), .bool false, .int .i64 0, .bool false]) ?_ 1 _ rfl; (with_reducible repeat apply pK); refine blk_put (cs := #[.bool false, .bool false, .int .i64 0, .bool false]) ?_ 0 _ rfl; (with_reducible repeat apply pK); exact d.out) Tryd.underlying28 rfl (by kernel_rfl)) rfl ?_
    exact ⟨er_, bl_⟩
   ·rw [if_neg Q] at H
    exact absurd H (by simp)
  ·rw [if_neg P] at H
   exact absurd H (by simp)

/-! ### shutterref11_Open: function 22 -/
def shutterref11_Open.f (k : Nat) (c : Int) (d : Int) (a : List (S44)) (e : Int) (g : Bool) (h : Bool) (a1 : Int) : Option (Bool) := if 0 ≤ a1 then (if a1 < (a.length : Int) then (if ((rd_T44 a a1).f0 = true) then (some false) else ((shutterref11_Of.f k c d a e g h a1).bind fun b => (some (!b.1)))) else (none)) else (none)
theorem shutterref11_Open.mono : ∀ a0 a1 a b a4 c d k, LeO (shutterref11_Open.f k a0 a1 a b a4 c d) (shutterref11_Open.f (k + 1) a0 a1 a b a4 c d) := by
 intro a0 a1 a b a4 c d k
 unfold shutterref11_Open.f
 repeat' first
   | (with_reducible exact shutterref11_Of.mono _ _ _ _ _ _ _ _)
   | (with_reducible exact LeO.refl _)
   | (with_reducible exact LeO.none _)
   | (with_reducible refine LeO.ite ?_ ?_)
   | (with_reducible refine LeO.bind ?_ (fun _ => ?_))
   | exact shutterref11_Of.mono _ _ _ _ _ _ _ _
   | exact LeO.none _
   | refine LeO.ite ?_ ?_
   | refine LeO.bind ?_ (fun _ => ?_)
set_option maxHeartbeats 8000000 in
set_option maxRecDepth 100000 in
theorem shutterref11_Open.calls (k : Nat) (m : Int) (n : Int) (B : Option Addr) (E : Nat) (a : List (S44)) (o : Int) (p : Bool) (q : Bool) (a1 : Int) (r : Bool) (w : World) (L : Kd.C k44 w B a.length a) (K : a.length ≤ E) (h : shutterref11_Open.f k m n a o p q a1 = some r) :
  Calls Tryd.prog 22 #[.agg #[.int .i64 m, .int .i64 n, .slice B a.length E, .int .i64 o, .bool p, .bool q], .int .i64 a1] w fun e w' => e = .returned (.bool r) ∧ Below w.heap.size w w' := by
 have aB := Tryd.underlying24
 have aC := Tryd.underlying28
 have D := Z L
 have Q := Z K
 clear L K
 have HB := Z (Below.refl w.heap.size w)
 have H : (if 0 ≤ a1 then (if a1 < (a.length : Int) then (if ((rd_T44 a a1).f0 = true) then (some false) else ((shutterref11_Of.f k m n a o p q a1).bind fun x => (some (!x.1)))) else (none)) else (none)) = some r := h
 clear h
 by_cases c3 : 0 ≤ a1
 ·rw [if_pos c3] at H
  have az : decide (0 ≤ a1) = true := decide_eq_true c3
  clear c3
  by_cases c4 : a1 < (a.length : Int)
  ·rw [if_pos c4] at H
   have aA : decide (a1 < (a.length : Int)) = true := decide_eq_true c4
   clear c4
   obtain ⟨T, J⟩ : ∃ b_ : Bool, b_ = ((rd_T44 a a1).f0) := ⟨_, rfl⟩
   replace H : (if (T = true) then (some false) else ((shutterref11_Of.f k m n a o p q a1).bind fun x => (some (!x.1)))) = some r := by rw [← J] at H; exact H
   have l := Z J
   clear J
   by_cases c6 : (T = true)
   ·subst c6
    have H1 : (some false) = some r := by rw [if_pos rfl] at H; exact H
    clear H
    have H := H1
    clear H1
    obtain rfl := Option.some.inj H
    go_enter Tryd.func22, Tryd.ntmps22
    go_wp2_with (first | ((with_reducible refine gate_dst (N := 2) rfl ?_); refine bx_ 2 24 #[.int .i64 m, .int .i64 n, .slice B a.length E, .int .i64 o, .bool p, .bool q] ?_; intro y hg w7 hbox hb; have s := Z (hbox); have P := Z (ln_ hg : w.heap.size ≤ y); have O := Z (ln_ hg : w.heap.size ≤ y); replace HB := Z (below_step bl_ hb); clear hb hbox hg; obtain ⟨ak, al, am, an, ao, ap, aq, ar, au, av, aw, ax⟩ := cells6 s.out; have u : 0 ≤ (a1 : Int) := od_; have v : a1 < (a.length : Int) := od_; obtain ⟨R, I, b, c, d, i, g, j⟩ := at_T44 D.out a1 u v; (try rw [← l.out] at b); (try rw [← l.out] at c); (try rw [← l.out] at d); (try rw [← l.out] at g); cases I; replace b := (HB.out.cell (bk_ w _ b)).trans b; replace c := (HB.out.cell (bk_ w _ c)).trans c; replace d := (HB.out.cell (bk_ w _ d)).trans d; replace i := (HB.out.cell (bk_ w _ i)).trans i; replace g := (HB.out.cell (bk_ w _ g)).trans g; replace j := (HB.out.cell (bk_ w _ j)).trans j; replace u := eq_true u; replace v := eq_true v))
    go_ret
    exact ⟨er_, bl_⟩
   ·replace c6 := Bool.eq_false_iff.mpr c6
    subst c6
    have H1 : ((shutterref11_Of.f k m n a o p q a1).bind fun x => (some (!x.1))) = some r := by rw [if_neg (show ¬ (false = true) by decide)] at H; exact H
    clear H
    have H := H1
    clear H1
    replace H := Option.bind_eq_some_iff.mp H
    obtain ⟨⟨M, U, V, W⟩, S, H⟩ := H
    replace H : (some (!M)) = some r := H
    have A9 := Z S
    clear S
    obtain rfl := Option.some.inj H
    go_enter Tryd.func22, Tryd.ntmps22
    go_wp2_with (first | ((with_reducible refine gate_dst (N := 2) rfl ?_); refine bx_ 2 24 #[.int .i64 m, .int .i64 n, .slice B a.length E, .int .i64 o, .bool p, .bool q] ?_; intro y hg aE hbox hb; have s := Z (hbox); have P := Z (ln_ hg : w.heap.size ≤ y); have O := Z (ln_ hg : w.heap.size ≤ y); replace HB := Z (below_step bl_ hb); clear hb hbox hg; obtain ⟨X, Y, aa, ab, ac, ad, ae, af, ag, ah, ai, aj⟩ := cells6 s.out; have u : 0 ≤ (a1 : Int) := od_; have v : a1 < (a.length : Int) := od_; obtain ⟨R, I, b, c, d, i, g, j⟩ := at_T44 D.out a1 u v; (try rw [← l.out] at b); (try rw [← l.out] at c); (try rw [← l.out] at d); (try rw [← l.out] at g); cases I; replace b := (HB.out.cell (bk_ w _ b)).trans b; replace c := (HB.out.cell (bk_ w _ c)).trans c; replace d := (HB.out.cell (bk_ w _ d)).trans d; replace i := (HB.out.cell (bk_ w _ i)).trans i; replace g := (HB.out.cell (bk_ w _ g)).trans g; replace j := (HB.out.cell (bk_ w _ j)).trans j; replace u := eq_true u; replace v := eq_true v) | (go_at_call 47; (with_reducible refine (shutterref11_Of.calls k m n _ _ a o p q a1 M U V W _ ?side1 ?side2 A9.out).mono ?_); (case side1 => repeat (first | exact (Kd.C_below D.out HB.out) | (with_reducible apply pC))); (case side2 => exact Q.out); rintro e aF ⟨rfl, hb⟩; replace s := Z (kb s.out hb); replace HB := Z (below_step bl_ hb); (try clear hb); (try clear aD); (try clear hk); (try clear hi)))
    go_ret
    exact ⟨er_, bl_⟩
  ·rw [if_neg c4] at H
   exact absurd H (by simp)
 ·rw [if_neg c3] at H
  exact absurd H (by simp)

/-! ### shutterref10_Copy: function 25 -/
def shutterref10_Copy.f (c : Int) (d : Int) (a : List (S44)) (e : Int) (g : Bool) (h : Bool) : Option (Int × Int × (List (S44)) × Int × Bool × Bool) := (some (([] : List (S44)) : List (S44))).bind fun b => (if b.length + a.length < 3518437208883 then (some (c, d, (b ++ a), e, g, h)) else (none))
set_option maxHeartbeats 8000000 in
set_option maxRecDepth 100000 in
theorem shutterref10_Copy.calls (c : Int) (i : Int) (I : Option Addr) (J : Nat) (d : List (S44)) (l : Int) (m : Bool) (n : Bool) (S : Int) (T : Int) (U : List (S44)) (V : Int) (W : Bool) (X : Bool) (w : World) (Q : Kd.C k44 w I d.length d) (P : d.length ≤ J) (h : shutterref10_Copy.f c i d l m n = some (S, T, U, V, W, X)) :
  Calls Tryd.prog 25 #[.agg #[.int .i64 c, .int .i64 i, .slice I d.length J, .int .i64 l, .bool m, .bool n]] w fun e w' => ∃ ae : Value, e = .returned (.agg #[.int .i64 S, .int .i64 T, ae, .int .i64 V, .bool W, .bool X]) ∧ Kd.R k44 44 w' w.heap.size (fun _ => True) ae U ∧ Below w.heap.size w w' := by
 have a7 := Tryd.underlying24
 have Y := Z Q
 have a4 := Z P
 clear Q P
 have HB := Z (Below.refl w.heap.size w)
 have H : ((some (([] : List (S44)) : List (S44))).bind fun v => (if v.length + d.length < 3518437208883 then (some (c, i, (v ++ d), l, m, n)) else (none))) = some (S, T, U, V, W, X) := h
 clear h
 obtain ⟨v, y⟩ : ∃ y_ : List (S44), y_ = (([] : List (S44))) := ⟨_, rfl⟩
 replace H : (if v.length + d.length < 3518437208883 then (some (c, i, (v ++ d), l, m, n)) else (none)) = some (S, T, U, V, W, X) := by first | (rw [y]; with_reducible exact H) | (have G := (Option.bind_some _ _).symm.trans H; rw [y]; with_reducible exact G) | (have G := (Option.bind_some _ _).symm.trans H; with_reducible exact G) | with_reducible exact H | (rw [y]; exact H) | exact H
 have O := Z y
 clear y
 by_cases c2 : v.length + d.length < 3518437208883
 ·rw [if_pos c2] at H
  have af := Z c2
  clear c2
  obtain ⟨x, z⟩ : ∃ y_ : List (S44), y_ = (v ++ d) := ⟨_, rfl⟩
  replace H : (some (c, i, x, l, m, n)) = some (S, T, U, V, W, X) := by first | (rw [z]; with_reducible exact H) | (have G := (Option.bind_some _ _).symm.trans H; rw [z]; with_reducible exact G) | (have G := (Option.bind_some _ _).symm.trans H; with_reducible exact G) | with_reducible exact H | (rw [z]; exact H) | exact H
  have aa := Z z
  clear z
  simp only [Option.some.injEq, Prod.mk.injEq] at H
  obtain ⟨rfl, rfl, rfl, rfl, rfl, rfl⟩ := H
  go_enter Tryd.func25, Tryd.ntmps25
  go_wp2_with (first | ((with_reducible refine gate_dst (N := 1) rfl ?_); refine bx_ 1 24 #[.int .i64 c, .int .i64 i, .slice I d.length J, .int .i64 l, .bool m, .bool n] ?_; intro F hg w3 hbox hb; have a := Z (hbox); have a2 := Z (ln_ hg : w.heap.size ≤ F); have a0 := Z (ln_ hg : w.heap.size ≤ F); replace HB := Z (below_step bl_ hb); clear hb hbox hg) | ((with_reducible refine gate_dst (N := 2) rfl ?_); refine bx_ 2 24 #[.int .i64 0, .int .i64 0, .slice none 0 0, .int .i64 0, .bool false, .bool false] ?_; intro k hg w4 hbox hb; have j := Z (hbox); have a3 := Z (ln_ hg : w.heap.size ≤ k); have a1 := Z (ln_ hg : w.heap.size ≤ k); replace HB := Z (below_step bl_ hb); have K := Z (nl a.out hg); have D := Z (ng a.out hg); replace a := Z (kb a.out hb); clear hb hbox hg) | ((with_reducible refine gate_dst (N := 3) rfl ?_); refine Kd.R_lit k44 _ 44 ?hg (N := 3) ?hd (xs := ([] : List (S44))) (inner := []) (ok := fun _ => True) (okp := fun _ => True) ?hr ?hp (fun _ hk => hk) trivial (Below.refl _ _) (Nat.le_refl _) (by simp) ?_; (case hd => rfl); (case hg => rfl); (case hr => first | (go_simp; done) | (go_simp; rfl)); (case hp => exact (Reps.none _ _)); intro ah w5 L hb hg_ hnew_; clear hg_ hnew_; (first | rw [← O.out] at L | (simp only [Int.reduceToNat] at L; rw [← O.out] at L)); have E := Z (Kd.R_lower L (below_size bl_)); replace a := Z (kb a.out hb); replace j := Z (kb j.out hb); replace HB := Z (below_step bl_ hb); clear hb L; have a5 := K.out; have a6 := D.out; obtain ⟨aK, aM, aN, aP, aQ, aT, aU, aV, aW, aX, aY, aZ⟩ := cells6 a.out) | ((with_reducible refine gate_builtin (b := .append) (xs := #[.tmp 3, .tmp 5]) rfl ?_); at_builtin; refine Kd.R_append_rows k44 (w0 := w) w.heap.size rfl (.tmp 3) (.tmp 5) 22 44 (.agg #[(.bool false), (.bool false), (.bool false), (.int .i64 0), (.bool false), (.int .u8 0)]) 40 rfl Tryd.underlying22 info44 rfl (by decide) (by omega) ah v d _ _ _ (fun _ => True) (fun _ => False) rfl rfl ?aO ?aR (fun _ _ h => h) (fun _ h => h.elim) ?aF ?aB ?aS ?aL ?_; (case aR => repeat (first | exact (Kd.C_below Y.out HB.out) | (with_reducible apply pC))); (case aB => exact bl_); (case aF => exact (fun _ _ => trivial)); (case aO => exact (by (with_reducible repeat apply pR); exact E.out)); (case aS => exact (below_size bl_)); (case aL => have := af.out; omega); intro a8 w9 ho hb hg hat; rw [← aa.out] at ho; replace a := Z (blk_grown (g := F) (o := .cells #[.int .i64 c, .int .i64 i, .slice I d.length J, .int .i64 l, .bool m, .bool n] 24 (0, 0)) (vK a.out) hg (Kd.R_ne E.out a.out (by decide))); replace j := Z (blk_grown (g := k) (o := .cells #[.int .i64 0, .int .i64 0, .slice none 0 0, .int .i64 0, .bool false, .bool false] 24 (0, 0)) (vK j.out) hg (Kd.R_ne E.out j.out (by decide))); replace HB := Z (hb); have M := Z (ho); clear E; clear ho hb hg hat; obtain ⟨A, B, ag⟩ := Kd.R_slice M.out; subst ag; obtain ⟨ai, aj, ak, al, am, an, aw, ax, ay, az, aA, aC⟩ := cells6 a.out; obtain ⟨ao, ap, aq, ar, au, av, aD, aE, aG, aH, aI, aJ⟩ := cells6 j.out))
  refine bodyPost_ret (results_cell_row rfl _ _ k 24 #[.int .i64 c, .int .i64 i, .slice A x.length B, .int .i64 l, .bool m, .bool n] (0, 0) _ rfl (by (with_reducible repeat apply pK); refine blk_put (cs := #[.int .i64 c, .int .i64 i, .slice A x.length B, .int .i64 l, .bool m, .bool false]) ?_ 5 _ rfl; (with_reducible repeat apply pK); refine blk_put (cs := #[.int .i64 c, .int .i64 i, .slice A x.length B, .int .i64 l, .bool false, .bool false]) ?_ 4 _ rfl; (with_reducible repeat apply pK); refine blk_put (cs := #[.int .i64 c, .int .i64 i, .slice A x.length B, .int .i64 0, .bool false, .bool false]) ?_ 3 _ rfl; (with_reducible repeat apply pK); refine blk_put (cs := #[.int .i64 c, .int .i64 i, .slice none 0 0, .int .i64 0, .bool false, .bool false]) ?_ 2 _ rfl; (with_reducible repeat apply pK); refine blk_put (cs := #[.int .i64 c, .int .i64 0, .slice none 0 0, .int .i64 0, .bool false, .bool false]) ?_ 1 _ rfl; (with_reducible repeat apply pK); refine blk_put (cs := #[.int .i64 0, .int .i64 0, .slice none 0 0, .int .i64 0, .bool false, .bool false]) ?_ 0 _ rfl; (with_reducible repeat apply pK); refine blk_far ?_ D.out _; (with_reducible repeat apply pK); exact j.out) Tryd.underlying24 rfl (by kernel_rfl)) rfl ?_
  exact ⟨_, er_, by (with_reducible repeat apply pR); exact Kd.R_mono (f6R k (Kd.R_far (p := ⟨F, 2, none⟩) (Kd.R_types (Kd.R_types M.out a.out (by decide)) j.out (by decide)) (fun _ hk => hk.1.2) (.slice A x.length B)) (fun _ hk => hk.2)) (fun _ hk => trivial), bl_⟩
 ·rw [if_neg c2] at H
  exact absurd H (by simp)

/-! ### shutterref10_Next: function 43 -/
def shutterref10_Next.f (b : Int) (c : Int) (a : List (S44)) (d : Int) (e : Bool) (g : Bool) (a1 : Int) : Option (Int) := if (wrap64 (a1 + 1)) = (a.length : Int) then (some 0) else (some (wrap64 (a1 + 1)))
set_option maxHeartbeats 8000000 in
set_option maxRecDepth 100000 in
theorem shutterref10_Next.calls (g : Int) (i : Int) (c : Option Addr) (m : Nat) (a : List (S44)) (j : Int) (k : Bool) (l : Bool) (a1 : Int) (r : Int) (w : World) (u : Kd.C k44 w c a.length a) (s : a.length ≤ m) (h : shutterref10_Next.f g i a j k l a1 = some r) :
  Calls Tryd.prog 43 #[.agg #[.int .i64 g, .int .i64 i, .slice c a.length m, .int .i64 j, .bool k, .bool l], .int .i64 a1] w fun e w' => e = .returned (.int .i64 r) ∧ Below w.heap.size w w' := by
 have ae := Tryd.underlying24
 have ad := Z u
 have ac := Z s
 clear u s
 have HB := Z (Below.refl w.heap.size w)
 have H : (if (wrap64 (a1 + 1)) = (a.length : Int) then (some 0) else (some (wrap64 (a1 + 1)))) = some r := h
 clear h
 by_cases c3 : (wrap64 (a1 + 1)) = (a.length : Int)
 ·rw [if_pos c3] at H
  have y : ((wrap64 (a1 + 1)) == (a.length : Int)) = true := beq_iff_eq.mpr c3
  have z : ((wrap64 (a1 + 1)) != (a.length : Int)) = false := bne_eq_false_iff_eq.mpr c3
  clear c3
  obtain rfl := Option.some.inj H
  go_enter Tryd.func43, Tryd.ntmps43
  go_wp2_with (first | ((with_reducible refine gate_dst (N := 2) rfl ?_); refine bx_ 2 24 #[.int .i64 g, .int .i64 i, .slice c a.length m, .int .i64 j, .bool k, .bool l] ?_; intro b hg w4 hbox hb; have d := Z (hbox); have x := Z (ln_ hg : w.heap.size ≤ b); have v := Z (ln_ hg : w.heap.size ≤ b); replace HB := Z (below_step bl_ hb); clear hb hbox hg; obtain ⟨A, B, D, E, F, G, P, Q, R, S, T, U⟩ := cells6 d.out))
  go_ret
  exact ⟨er_, bl_⟩
 ·rw [if_neg c3] at H
  have y : ((wrap64 (a1 + 1)) == (a.length : Int)) = false := beq_eq_false_iff_ne.mpr c3
  have z : ((wrap64 (a1 + 1)) != (a.length : Int)) = true := bne_iff_ne.mpr c3
  obtain rfl := Option.some.inj H
  go_enter Tryd.func43, Tryd.ntmps43
  go_wp2_with (first | ((with_reducible refine gate_dst (N := 2) rfl ?_); refine bx_ 2 24 #[.int .i64 g, .int .i64 i, .slice c a.length m, .int .i64 j, .bool k, .bool l] ?_; intro b hg w6 hbox hb; have d := Z (hbox); have x := Z (ln_ hg : w.heap.size ≤ b); have v := Z (ln_ hg : w.heap.size ≤ b); replace HB := Z (below_step bl_ hb); clear hb hbox hg; obtain ⟨I, J, K, L, M, O, V, W, X, Y, aa, ab⟩ := cells6 d.out))
  go_ret
  exact ⟨er_, bl_⟩

/-! ### shutterref10_Span: function 44 -/
def shutterref10_Span.l0 : Nat → Int → Int → List Int → Int → Int → Int → List (S44) → Int → Bool → Bool → Option (List Int)
 | 0, _, _, _, _, _, _, _, _, _, _ => none
 | k + 1, l, m, h, i, a, b, c, d, e, g => if i = m then (some h) else (if i = l then (some h) else (if h.length < 17592186044416 then ((shutterref10_Next.f a b c d e g i).bind fun j => (shutterref10_Span.l0 k l m (h ++ [i]) j a b c d e g)) else (none)))
def shutterref10_Span.f (k : Nat) (a : Int) (b : Int) (g : List (S44)) (c : Int) (d : Bool) (e : Bool) (a1 : Int) (i : Int) : Option (List Int) := (shutterref10_Next.f a b g c d e a1).bind fun h => (shutterref10_Span.l0 k a1 i (([a1] : List Int)) h a b g c d e)
theorem shutterref10_Span.mono_l : ∀ k, (∀ b c d e f g i j l m, LeO (shutterref10_Span.l0 k b c d e f g i j l m) (shutterref10_Span.l0 (k + 1) b c d e f g i j l m))
 | 0 => fun _ _ _ _ _ _ _ _ _ _ r h => by simp [shutterref10_Span.l0] at h
 | k + 1 => by
  have a := shutterref10_Span.mono_l k
  ·intro b c d e f g i j l m
   unfold shutterref10_Span.l0
   repeat' first
   | (with_reducible exact a _ _ _ _ _ _ _ _ _ _)
   | (with_reducible exact LeO.refl _)
   | (with_reducible exact LeO.none _)
   | (with_reducible refine LeO.ite ?_ ?_)
   | (with_reducible refine LeO.bind ?_ (fun _ => ?_))
   | exact a _ _ _ _ _ _ _ _ _ _
   | exact LeO.none _
   | refine LeO.ite ?_ ?_
   | refine LeO.bind ?_ (fun _ => ?_)
theorem shutterref10_Span.mono : ∀ a0 a1 b c a4 d e g k, LeO (shutterref10_Span.f k a0 a1 b c a4 d e g) (shutterref10_Span.f (k + 1) a0 a1 b c a4 d e g) := by
 intro a0 a1 b c a4 d e g k
 have a := shutterref10_Span.mono_l k
 unfold shutterref10_Span.f
 repeat' first
   | (with_reducible exact a _ _ _ _ _ _ _ _ _ _)
   | (with_reducible exact LeO.refl _)
   | (with_reducible exact LeO.none _)
   | (with_reducible refine LeO.ite ?_ ?_)
   | (with_reducible refine LeO.bind ?_ (fun _ => ?_))
   | exact a _ _ _ _ _ _ _ _ _ _
   | exact LeO.none _
   | refine LeO.ite ?_ ?_
   | refine LeO.bind ?_ (fun _ => ?_)
set_option maxHeartbeats 8000000 in
set_option maxRecDepth 100000 in
theorem shutterref10_Span.calls (k : Nat) (i : Int) (j : Int) (u : Option Addr) (v : Nat) (c : List (S44)) (l : Int) (m : Bool) (n : Bool) (a1 : Int) (A : Int) (r : List Int) (w : World) (V : Kd.C k44 w u c.length c) (U : c.length ≤ v) (h : shutterref10_Span.f k i j c l m n a1 A = some r) :
  Calls Tryd.prog 44 #[.agg #[.int .i64 i, .int .i64 j, .slice u c.length v, .int .i64 l, .bool m, .bool n], .int .i64 a1, .int .i64 A] w fun e w' => ∃ av : Value, e = .returned (av) ∧ Kd.R (Kd.int .i64) 3 w' w.heap.size (fun _ => True) av r ∧ Below w.heap.size w w' := by
 have aT := Tryd.underlying24
 have Q := Z V
 have P := Z U
 clear V U
 have HB := Z (Below.refl w.heap.size w)
 have H : ((shutterref10_Next.f i j c l m n a1).bind fun x => (shutterref10_Span.l0 k a1 A (([a1] : List Int)) x i j c l m n)) = some r := h
 clear h
 obtain ⟨L, y⟩ : ∃ y_ : List Int, y_ = (([a1] : List Int)) := ⟨_, rfl⟩
 replace H : ((shutterref10_Next.f i j c l m n a1).bind fun x => (shutterref10_Span.l0 k a1 A L x i j c l m n)) = some r := by first | (rw [y]; with_reducible exact H) | (have G := (Option.bind_some _ _).symm.trans H; rw [y]; with_reducible exact G) | (have G := (Option.bind_some _ _).symm.trans H; with_reducible exact G) | with_reducible exact H | (rw [y]; exact H) | exact H
 have S := Z y
 clear y
 replace H := Option.bind_eq_some_iff.mp H
 obtain ⟨x, aq, H⟩ := H
 replace H : (shutterref10_Span.l0 k a1 A L x i j c l m n) = some r := H
 have A4 := Z aq
 clear aq
 have H' := Z H
 clear H
 go_enter Tryd.func44, Tryd.ntmps44
 go_wp2_with (first | ((with_reducible refine gate_dst (N := 3) rfl ?_); refine bx_ 3 24 #[.int .i64 i, .int .i64 j, .slice u c.length v, .int .i64 l, .bool m, .bool n] ?_; intro F hg w5 hbox hb; have a := Z (hbox); have aQ := Z (ln_ hg : w.heap.size ≤ F); have aN := Z (ln_ hg : w.heap.size ≤ F); replace HB := Z (below_step bl_ hb); clear hb hbox hg) | ((with_reducible refine gate_dst (N := 10) rfl ?_); refine Kd.R_lit (Kd.int .i64) _ 3 ?hg (N := 10) ?hd (xs := ([a1] : List Int)) (inner := [.int .i64 a1]) (ok := fun _ => True) (okp := fun _ => True) ?hr ?hp (fun _ hk => hk) trivial (Below.refl _ _) (Nat.le_refl _) (by simp) ?_; (case hd => rfl); (case hg => rfl); (case hr => first | (go_simp; done) | (go_simp; rfl)); (case hp => exact (Reps.one (show Kd.M (Kd.int .i64) _ _ _ a1 [.int .i64 a1] from rfl) (Reps.none _ _))); intro aU w6 K hb hg_ hnew_; clear hg_ hnew_; (first | rw [← S.out] at K | (simp only [Int.reduceToNat] at K; rw [← S.out] at K)); have D := Z (Kd.R_lower K (below_size bl_)); replace a := Z (kb a.out hb); replace HB := Z (below_step bl_ hb); clear hb K; obtain ⟨X, Y, aa, ab, ac, ad, ae, af, ag, ah, ai, aj⟩ := cells6 a.out) | ((with_reducible refine gate_callee (f := 43) rfl ?_); refine goesL_ (some 13) rfl rfl Tryd.func43 (by kernel_rfl) rfl #[.agg #[.int .i64 i, .int .i64 j, .slice u c.length v, .int .i64 l, .bool m, .bool n], .int .i64 a1] rfl ag_ ?_; (with_reducible refine (shutterref10_Next.calls i j _ _ c l m n a1 x _ ?side1 ?side2 A4.out).mono ?_); (case side1 => repeat (first | exact (Kd.C_below Q.out HB.out) | (with_reducible apply pC))); (case side2 => exact P.out); rintro e w9 ⟨rfl, hb⟩; refine ⟨_, rfl, ?_⟩; replace D := Z (rb D.out hb); replace a := Z (kb a.out hb); replace HB := Z (below_step bl_ hb); (try clear hb); (try clear aM); (try clear hk); (try clear hi)))
 go_loopg [7, 8] k (fun kq v7 v8 w' => ∃ (B : List Int) (d : Int), v8 = .int .i64 d ∧ Aside0 (shutterref10_Span.l0 kq a1 A B d i j c l m n = some r) ∧ Aside0 (kq ≤ k) ∧ Aside0 (Kd.R (Kd.int .i64) 3 w' w.heap.size (fun _ => True) v7 B) ∧ Aside0 (w'.heap[F]? = some (.cells #[.int .i64 i, .int .i64 j, (.slice u c.length v), .int .i64 l, .bool m, .bool n] 24 (0, 0))) ∧ Aside0 (Below w.heap.size w w'))
 case atStart => exact ⟨(L), (x), (dn_), H', ⟨Nat.le_refl _⟩, ⟨by (with_reducible repeat apply pR); exact D.out⟩, ⟨vK a.out⟩, ⟨bl_⟩⟩
 case round =>
  clear H'
  try clear p2
  try clear c4
  try clear X
  try clear Y
  try clear aa
  try clear ab
  try clear ac
  try clear ad
  try clear ae
  try clear af
  try clear ag
  try clear ah
  try clear ai
  try clear aj
  obtain ⟨B, d, rfl, HA, ar, HO_7, a, HB⟩ := hrel
  cases gk with
  | zero => exact absurd HA.out (by simp [shutterref10_Span.l0])
  | succ k1 =>
   have H := HA.out
   clear HA
   simp only [shutterref10_Span.l0] at H
   by_cases c10 : d = A
   ·rw [if_pos c10] at H
    have am : (d == A) = true := beq_iff_eq.mpr c10
    have an : (d != A) = false := bne_eq_false_iff_eq.mpr c10
    clear c10
    obtain rfl := Option.some.inj H
    go_wp2
    go_ret
    exact ⟨_, er_, by (with_reducible repeat apply pR); exact HO_7.out, bl_⟩
   ·rw [if_neg c10] at H
    have am : (d == A) = false := beq_eq_false_iff_ne.mpr c10
    have an : (d != A) = true := bne_iff_ne.mpr c10
    by_cases I : d = a1
    ·rw [if_pos I] at H
     have ao : (d == a1) = true := beq_iff_eq.mpr I
     have ap : (d != a1) = false := bne_eq_false_iff_eq.mpr I
     clear I
     obtain rfl := Option.some.inj H
     go_wp2
     go_ret
     exact ⟨_, er_, by (with_reducible repeat apply pR); exact HO_7.out, bl_⟩
    ·rw [if_neg I] at H
     have ao : (d == a1) = false := beq_eq_false_iff_ne.mpr I
     have ap : (d != a1) = true := bne_iff_ne.mpr I
     by_cases T : B.length < 17592186044416
     ·rw [if_pos T] at H
      have ak := Z T
      clear T
      obtain ⟨O, z⟩ : ∃ y_ : List Int, y_ = (B ++ [d]) := ⟨_, rfl⟩
      replace H : ((shutterref10_Next.f i j c l m n d).bind fun J => (shutterref10_Span.l0 k1 a1 A O J i j c l m n)) = some r := by first | (rw [z]; with_reducible exact H) | (have G := (Option.bind_some _ _).symm.trans H; rw [z]; with_reducible exact G) | (have G := (Option.bind_some _ _).symm.trans H; with_reducible exact G) | with_reducible exact H | (rw [z]; exact H) | exact H
      have al := Z z
      clear z
      replace H := Option.bind_eq_some_iff.mp H
      obtain ⟨J, W, H⟩ := H
      replace H : (shutterref10_Span.l0 k1 a1 A O J i j c l m n) = some r := H
      have aK := Z W
      clear W
      have H' := Z H
      clear H
      go_wp2_with (first | ((with_reducible refine gate_builtin (b := .append) (xs := #[.tmp 22, .tmp 24]) rfl ?_); at_builtin; refine Kd.R_append (Kd.int .i64) (w0 := w) w.heap.size rfl (.tmp 22) (.tmp 24) 78 3 (.int .i64 0) 8 rfl Tryd.underlying78 info3 rfl (by decide) (by omega) u7 B d [.int .i64 d] (fun _ => True) (fun _ => False) rfl rfl ?aP (fun _ hk => hk.elim) ?aF ?aO ?aB ?aS ?aL ?_; (case aP => exact rfl); (case aB => exact bl_); (case aF => exact (fun _ _ => trivial)); (case aO => exact (by (with_reducible repeat apply pR); exact HO_7.out)); (case aS => exact (below_size bl_)); (case aL => have := ak.out; omega); intro aV aY ho hb hg hat; rw [← al.out] at ho; replace a := Z (blk_grown (g := F) (o := .cells #[.int .i64 i, .int .i64 j, .slice u c.length v, .int .i64 l, .bool m, .bool n] 24 (0, 0)) (vK a.out) hg (Kd.R_ne HO_7.out a.out (by decide))); replace HB := Z (hb); have E := Z (ho); clear HO_7; clear ho hb hg hat; obtain ⟨aw, ax, ay, az, aA, aC, aD, aE, aG, aH, aI, aJ⟩ := cells6 a.out) | ((with_reducible refine gate_callee (f := 43) rfl ?_); refine goesL_ (some 28) rfl rfl Tryd.func43 (by kernel_rfl) rfl #[.agg #[.int .i64 i, .int .i64 j, .slice u c.length v, .int .i64 l, .bool m, .bool n], .int .i64 d] rfl ag_ ?_; (with_reducible refine (shutterref10_Next.calls i j _ _ c l m n d J _ ?side1 ?side2 aK.out).mono ?_); (case side1 => repeat (first | exact (Kd.C_below Q.out HB.out) | (with_reducible apply pC))); (case side2 => exact P.out); rintro e aZ ⟨rfl, hb⟩; refine ⟨_, rfl, ?_⟩; replace E := Z (rb E.out hb); replace a := Z (kb a.out hb); replace HB := Z (below_step bl_ hb); (try clear hb); (try clear aM); (try clear hk); (try clear hi)))
      go_roundg k1
      case measure => have := ar.out; omega
      case rel => exact ⟨(O), (J), (dn_), H', ⟨by have := ar.out; omega⟩, ⟨by (with_reducible repeat apply pR); exact E.out⟩, ⟨vK a.out⟩, ⟨bl_⟩⟩
     ·rw [if_neg T] at H
      exact absurd H (by simp)

end Go.Proofs.YtgboplhcjhlabaaDoor.P
