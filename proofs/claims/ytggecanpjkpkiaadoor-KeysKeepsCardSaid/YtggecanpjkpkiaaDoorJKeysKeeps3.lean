/- Printed walks of the law's functions, joined by joinpx.py: each function as a plain Lean function, and that Go's code comes to its answer. -/
import Derived.Test.YtggecanpjkpkiaaDoorJKeysKeeps1
import Derived.Test.YtggecanpjkpkiaaDoorPx3
namespace Go.Proofs.YtggecanpjkpkiaaDoor.P
open Go.RowKit Go.Proofs.YtggecanpjkpkiaaDoorW.PrintWords Go.Proofs.YtggecanpjkpkiaaDoorW.PrintLast Go.Proofs.YtggecanpjkpkiaaDoorW.PrintMore
attribute [local go_sem] max2_int min2_int max_two min_two max_three min_three max_four min_four
attribute [local go_sem] Instr.field asAgg
set_option linter.unusedVariables false
set_option linter.unusedSimpArgs false
set_option maxHeartbeats 8000000
set_option maxRecDepth 100000
mutual
def shutterref10_Right.j0 : Nat → Bool → Int → Int → List (S35) → Int → Bool → Bool → Option (Bool)
 | 0, _, _, _, _, _, _, _ => none
 | k + 1, g, a, b, c, d, e, f => if g = true then (some false) else (shutterref10_Right.l0 k 0 a b c d e f)
def shutterref10_Right.l0 : Nat → Int → Int → Int → List (S35) → Int → Bool → Bool → Option (Bool)
 | 0, _, _, _, _, _, _, _ => none
 | k + 1, b, c, d, a, e, g, h => if b < (a.length : Int) then (if 0 ≤ b then ((shutterref10_Cell.f ((rd_T35 a b).f0) ((rd_T35 a b).f1.f0) ((rd_T35 a b).f1.f1) ((rd_T35 a b).f1.f2) ((rd_T35 a b).f1.f3) ((rd_T35 a b).f2)).bind fun i => (if i = true then (shutterref10_Right.l0 k (wrap64 (b + 1)) c d a e g h) else (some false))) else (none)) else (some true)
end
def shutterref10_Right.f (k : Nat) (a : Int) (b : Int) (d : List (S35)) (c : Int) (e : Bool) (g : Bool) : Option (Bool) := (shutterref10_Sized.f a b).bind fun h => (if h = true then (if (d.length : Int) = (wrap64 (a * b)) then (if c < 0 then (shutterref10_Right.j0 k true a b d c e g) else (shutterref10_Right.j0 k (decide (c ≥ (d.length : Int))) a b d c e g)) else (shutterref10_Right.j0 k true a b d c e g)) else (shutterref10_Right.j0 k true a b d c e g))
theorem shutterref10_Right.mono_l : ∀ k, (∀ a b c d e f g, LeO (shutterref10_Right.j0 k a b c d e f g) (shutterref10_Right.j0 (k + 1) a b c d e f g)) ∧ (∀ a b c d e f g, LeO (shutterref10_Right.l0 k a b c d e f g) (shutterref10_Right.l0 (k + 1) a b c d e f g))
 | 0 => ⟨fun _ _ _ _ _ _ _ r h => by simp [shutterref10_Right.j0] at h, fun _ _ _ _ _ _ _ r h => by simp [shutterref10_Right.l0] at h⟩
 | k + 1 => by
  obtain ⟨i, j⟩ := shutterref10_Right.mono_l k
  refine ⟨?_, ?_⟩
  ·intro a b c d e f g
   unfold shutterref10_Right.j0
   repeat' first
   | (with_reducible exact i _ _ _ _ _ _ _)
   | (with_reducible exact j _ _ _ _ _ _ _)
   | (with_reducible exact LeO.refl _)
   | (with_reducible exact LeO.none _)
   | (with_reducible refine LeO.ite ?_ ?_)
   | (with_reducible refine LeO.bind ?_ (fun _ => ?_))
   | exact i _ _ _ _ _ _ _
   | exact j _ _ _ _ _ _ _
   | exact LeO.none _
   | refine LeO.ite ?_ ?_
   | refine LeO.bind ?_ (fun _ => ?_)
  ·intro a b c d e f g
   unfold shutterref10_Right.l0
   repeat' first
   | (with_reducible exact i _ _ _ _ _ _ _)
   | (with_reducible exact j _ _ _ _ _ _ _)
   | (with_reducible exact LeO.refl _)
   | (with_reducible exact LeO.none _)
   | (with_reducible refine LeO.ite ?_ ?_)
   | (with_reducible refine LeO.bind ?_ (fun _ => ?_))
   | exact i _ _ _ _ _ _ _
   | exact j _ _ _ _ _ _ _
   | exact LeO.none _
   | refine LeO.ite ?_ ?_
   | refine LeO.bind ?_ (fun _ => ?_)
theorem shutterref10_Right.mono : ∀ a0 a1 c d a4 e k, LeO (shutterref10_Right.f k a0 a1 c d a4 e) (shutterref10_Right.f (k + 1) a0 a1 c d a4 e) := by
 intro a0 a1 c d a4 e k
 obtain ⟨a, b⟩ := shutterref10_Right.mono_l k
 unfold shutterref10_Right.f
 repeat' first
   | (with_reducible exact a _ _ _ _ _ _ _)
   | (with_reducible exact b _ _ _ _ _ _ _)
   | (with_reducible exact LeO.refl _)
   | (with_reducible exact LeO.none _)
   | (with_reducible refine LeO.ite ?_ ?_)
   | (with_reducible refine LeO.bind ?_ (fun _ => ?_))
   | exact a _ _ _ _ _ _ _
   | exact b _ _ _ _ _ _ _
   | exact LeO.none _
   | refine LeO.ite ?_ ?_
   | refine LeO.bind ?_ (fun _ => ?_)
theorem shutterref10_Right.calls (k : Nat) (c : Int) (d : Int) (D : Option Addr) (E : Nat) (a : List (S35)) (g : Int) (j : Bool) (l : Bool) (r : Bool) (w : World) (aQ : Kd.C k35 w D a.length a) (aP : a.length ≤ E) (h : shutterref10_Right.f k c d a g j l = some r) :
  Calls Tryd.prog 20 #[.agg #[.int .i64 c, .int .i64 d, .slice D a.length E, .int .i64 g, .bool j, .bool l]] w fun e w' => e = .returned (.bool r) ∧ Below w.heap.size w w' := by
 have bL := Tryd.underlying24
 have bM := Tryd.underlying35
 have aM := Z aQ
 have bJ := Z aP
 clear aQ aP
 have HB := Z (Below.refl w.heap.size w)
 have H : ((shutterref10_Sized.f c d).bind fun ah => (if ah = true then (if (a.length : Int) = (wrap64 (c * d)) then (if g < 0 then (shutterref10_Right.j0 k true c d a g j l) else (shutterref10_Right.j0 k (decide (g ≥ (a.length : Int))) c d a g j l)) else (shutterref10_Right.j0 k true c d a g j l)) else (shutterref10_Right.j0 k true c d a g j l))) = some r := h
 clear h
 have aS := Z H
 clear H
 go_enter Tryd.func20, Tryd.ntmps20
 go_upto_region 1 with (first | ((with_reducible refine gate_dst (N := 1) rfl ?_); (try (refine gate_guard (by rfl) ?_; dsimp only)); refine bx_ 1 24 #[.int .i64 c, .int .i64 d, .slice D a.length E, .int .i64 g, .bool j, .bool l] ?_; intro A hg w3 hbox hb; have i := Z (hbox); have bI := Z (ln_ hg : w.heap.size ≤ A); have bH := bI; replace HB := bs_ hb; clear hb hbox hg))
 (try simp only [Act.put, sA, sB, sC])
 go_cut [33] (fun bG wc => ∃ (kq : Nat) (B : Bool), bG = .bool B ∧ Aside0 (shutterref10_Right.j0 kq B c d a g j l = some r) ∧ Aside0 (kq ≤ k) ∧ Aside0 (wc.heap[A]? = some (.cells #[.int .i64 c, .int .i64 d, (.slice D a.length E), .int .i64 g, .bool j, .bool l] 24 (0, 0))) ∧ Aside0 (Below w.heap.size w wc))
 case first =>
  have H := aS.out
  clear aS
  replace H := Option.bind_eq_some_iff.mp H
  obtain ⟨ah, aZ, H⟩ := H
  replace H : (if ah = true then (if (a.length : Int) = (wrap64 (c * d)) then (if g < 0 then (shutterref10_Right.j0 k true c d a g j l) else (shutterref10_Right.j0 k (decide (g ≥ (a.length : Int))) c d a g j l)) else (shutterref10_Right.j0 k true c d a g j l)) else (shutterref10_Right.j0 k true c d a g j l)) = some r := H
  have A4 := Z aZ
  clear aZ
  by_cases c5 : ah = true
  ·subst c5
   have H1 : (if (a.length : Int) = (wrap64 (c * d)) then (if g < 0 then (shutterref10_Right.j0 k true c d a g j l) else (shutterref10_Right.j0 k (decide (g ≥ (a.length : Int))) c d a g j l)) else (shutterref10_Right.j0 k true c d a g j l)) = some r := by rw [if_pos rfl] at H; exact H
   clear H
   have H := H1
   clear H1
   by_cases c6 : (a.length : Int) = (wrap64 (c * d))
   ·rw [if_pos c6] at H
    obtain ⟨u, aJ⟩ := eT_ c6
    clear c6
    (first | rw [u] | (simp only [i64_w, i32_w]; rw [u]) | skip)
    by_cases c7 : g < 0
    ·rw [if_pos c7] at H
     have aK : decide (g < 0) = true := decide_eq_true c7
     clear c7
     have H' := Z H
     clear H
     obtain ⟨aj, ak, al, am, an, ao, ax, ay, az, aA, aB, aC⟩ := cells6 i.out
     go_wp2_with (first | ((with_reducible refine gate_callee (f := 45) rfl ?_); refine goesL_ (some 8) rfl rfl Tryd.func45 (by kernel_rfl) rfl #[.int .i64 c, .int .i64 d] rfl ag_ ?_; (with_reducible refine (shutterref10_Sized.calls c d true _ A4.out).mono ?_); rintro e w' ⟨rfl, ⟨nd, rfl⟩⟩; refine ⟨_, rfl, ?_⟩))
     go_meet
     case rel => exact ⟨_, (true), (dn_), H', ⟨by first | omega | exact Nat.le_refl _⟩, ⟨vK i.out⟩, ⟨bl_⟩⟩
    ·rw [if_neg c7] at H
     have aK : decide (g < 0) = false := decide_eq_false c7
     clear c7
     have H' := Z H
     clear H
     obtain ⟨ap, aq, ar, au, av, aw, aD, aE, aF, aG, aH, aI⟩ := cells6 i.out
     go_wp2_with (first | ((with_reducible refine gate_callee (f := 45) rfl ?_); refine goesL_ (some 8) rfl rfl Tryd.func45 (by kernel_rfl) rfl #[.int .i64 c, .int .i64 d] rfl ag_ ?_; (with_reducible refine (shutterref10_Sized.calls c d true _ A4.out).mono ?_); rintro e w' ⟨rfl, ⟨nd, rfl⟩⟩; refine ⟨_, rfl, ?_⟩))
     go_meet
     case rel => exact ⟨_, (decide (g ≥ (a.length : Int))), (dn_), H', ⟨by first | omega | exact Nat.le_refl _⟩, ⟨vK i.out⟩, ⟨bl_⟩⟩
   ·rw [if_neg c6] at H
    obtain ⟨u, aJ⟩ := eF_ c6
    (first | rw [u] | (simp only [i64_w, i32_w]; rw [u]) | skip)
    have H' := Z H
    clear H
    obtain ⟨G, I, J, K, L, M, U, V, W, X, Y, aa⟩ := cells6 i.out
    go_wp2_with (first | ((with_reducible refine gate_callee (f := 45) rfl ?_); refine goesL_ (some 8) rfl rfl Tryd.func45 (by kernel_rfl) rfl #[.int .i64 c, .int .i64 d] rfl ag_ ?_; (with_reducible refine (shutterref10_Sized.calls c d true _ A4.out).mono ?_); rintro e w' ⟨rfl, ⟨nd, rfl⟩⟩; refine ⟨_, rfl, ?_⟩))
    go_meet
    case rel => exact ⟨_, (true), (dn_), H', ⟨by first | omega | exact Nat.le_refl _⟩, ⟨vK i.out⟩, ⟨bl_⟩⟩
  ·replace c5 := Bool.eq_false_iff.mpr c5
   subst c5
   have H1 : (shutterref10_Right.j0 k true c d a g j l) = some r := by rw [if_neg (show ¬ (false = true) by decide)] at H; exact H
   clear H
   have H := H1
   clear H1
   have H' := Z H
   clear H
   obtain ⟨O, P, Q, R, S, T, ab, ac, ad, ae, af, ag⟩ := cells6 i.out
   go_wp2_with (first | ((with_reducible refine gate_callee (f := 45) rfl ?_); refine goesL_ (some 8) rfl rfl Tryd.func45 (by kernel_rfl) rfl #[.int .i64 c, .int .i64 d] rfl ag_ ?_; (with_reducible refine (shutterref10_Sized.calls c d false _ A4.out).mono ?_); rintro e w' ⟨rfl, ⟨nd, rfl⟩⟩; refine ⟨_, rfl, ?_⟩))
   go_meet
   case rel => exact ⟨_, (true), (dn_), H', ⟨by first | omega | exact Nat.le_refl _⟩, ⟨vK i.out⟩, ⟨bl_⟩⟩
 case rest =>
  clear aS
  obtain ⟨kq, B, rfl, HA, a0, i, HB⟩ := hcut
  cases kq with
  | zero => exact absurd HA.out (by simp [shutterref10_Right.j0])
  | succ aT =>
   have H := HA.out
   clear HA
   simp only [shutterref10_Right.j0] at H
   by_cases ai : B = true
   ·subst ai
    have H1 : (some false) = some r := by rw [if_pos rfl] at H; exact H
    clear H
    have H := H1
    clear H1
    obtain rfl := Option.some.inj H
    go_wp2
    go_ret
    exact ⟨er_, bl_⟩
   ·replace ai := Bool.eq_false_iff.mpr ai
    subst ai
    have H1 : (shutterref10_Right.l0 aT 0 c d a g j l) = some r := by rw [if_neg (show ¬ (false = true) by decide)] at H; exact H
    clear H
    have H := H1
    clear H1
    have H' := Z H
    clear H
    go_wp2
    go_loopg [3] aT (fun kq v3 w' => ∃ (b : Int), v3 = .int .i64 b ∧ Aside0 (shutterref10_Right.l0 kq b c d a g j l = some r) ∧ Aside0 (kq ≤ aT) ∧ Aside0 (w'.heap[A]? = some (.cells #[.int .i64 c, .int .i64 d, (.slice D a.length E), .int .i64 g, .bool j, .bool l] 24 (0, 0))) ∧ Aside0 (Below w.heap.size w w'))
    case atStart => exact ⟨(0), (dn_), H', ⟨Nat.le_refl _⟩, ⟨vK i.out⟩, ⟨bl_⟩⟩
    case round =>
     clear H'
     obtain ⟨b, rfl, HA, a1, i, HB⟩ := hrel
     cases gk with
     | zero => exact absurd HA.out (by simp [shutterref10_Right.l0])
     | succ k2 =>
      have H := HA.out
      clear HA
      simp only [shutterref10_Right.l0] at H
      by_cases F : b < (a.length : Int)
      ·rw [if_pos F] at H
       have aX : decide (b < (a.length : Int)) = true := decide_eq_true F
       clear F
       by_cases aN : 0 ≤ b
       ·rw [if_pos aN] at H
        have bK : decide (0 ≤ b) = true := decide_eq_true aN
        clear aN
        replace H := Option.bind_eq_some_iff.mp H
        obtain ⟨aU, aR, H⟩ := H
        replace H : (if aU = true then (shutterref10_Right.l0 k2 (wrap64 (b + 1)) c d a g j l) else (some false)) = some r := H
        have aY := Z aR
        clear aR
        by_cases aO : aU = true
        ·subst aO
         have H1 : (shutterref10_Right.l0 k2 (wrap64 (b + 1)) c d a g j l) = some r := by rw [if_pos rfl] at H; exact H
         clear H
         have H := H1
         clear H1
         have H' := Z H
         clear H
         obtain ⟨a4, a5, a6, a7, a8, a9, bm, bn, bo, bp, bq, br⟩ := cells6 i.out
         have v : 0 ≤ (b : Int) := od_
         have x : b < (a.length : Int) := od_
         obtain ⟨aW, aL, m, n, o, p, q, s⟩ := at_T35 aM.out b v x
         cases aL
         replace m := (HB.out.cell (bk_ w _ m)).trans m
         replace n := (HB.out.cell (bk_ w _ n)).trans n
         replace o := (HB.out.cell (bk_ w _ o)).trans o
         replace p := (HB.out.cell (bk_ w _ p)).trans p
         replace q := (HB.out.cell (bk_ w _ q)).trans q
         replace s := (HB.out.cell (bk_ w _ s)).trans s
         replace v := eq_true v
         replace x := eq_true x
         go_wp2_with (first | ((with_reducible refine gate_callee (f := 46) rfl ?_); refine goesL_ (some 46) rfl rfl Tryd.func46 (by kernel_rfl) rfl #[.agg #[.bool ((rd_T35 a b).f0), .bool ((rd_T35 a b).f1.f0), .bool ((rd_T35 a b).f1.f1), .int .i64 ((rd_T35 a b).f1.f2), .bool ((rd_T35 a b).f1.f3), .int .u8 ((rd_T35 a b).f2)]] rfl ag_ ?_; (with_reducible refine (shutterref10_Cell.calls ((rd_T35 a b).f0) ((rd_T35 a b).f1.f0) ((rd_T35 a b).f1.f1) ((rd_T35 a b).f1.f2) ((rd_T35 a b).f1.f3) ((rd_T35 a b).f2) true _ aY.out).mono ?_); rintro e bO ⟨rfl, hb⟩; refine ⟨_, rfl, ?_⟩; replace i := kb' i hb; replace HB := bs_ hb; clear hb))
         go_roundg k2
         case measure => have := a0.out; have := a1.out; omega
         case rel => exact ⟨(wrap64 (b + 1)), (dn_), H', ⟨by have := a0.out; have := a1.out; omega⟩, ⟨vK i.out⟩, ⟨bl_⟩⟩
        ·replace aO := Bool.eq_false_iff.mpr aO
         subst aO
         have H1 : (some false) = some r := by rw [if_neg (show ¬ (false = true) by decide)] at H; exact H
         clear H
         have H := H1
         clear H1
         obtain rfl := Option.some.inj H
         obtain ⟨ba, bb, bc, bd, be, bf, bs, bt, bu, bv, bw, bx⟩ := cells6 i.out
         have v : 0 ≤ (b : Int) := od_
         have x : b < (a.length : Int) := od_
         obtain ⟨aW, aL, m, n, o, p, q, s⟩ := at_T35 aM.out b v x
         cases aL
         replace m := (HB.out.cell (bk_ w _ m)).trans m
         replace n := (HB.out.cell (bk_ w _ n)).trans n
         replace o := (HB.out.cell (bk_ w _ o)).trans o
         replace p := (HB.out.cell (bk_ w _ p)).trans p
         replace q := (HB.out.cell (bk_ w _ q)).trans q
         replace s := (HB.out.cell (bk_ w _ s)).trans s
         replace v := eq_true v
         replace x := eq_true x
         go_wp2_with (first | ((with_reducible refine gate_callee (f := 46) rfl ?_); refine goesL_ (some 46) rfl rfl Tryd.func46 (by kernel_rfl) rfl #[.agg #[.bool ((rd_T35 a b).f0), .bool ((rd_T35 a b).f1.f0), .bool ((rd_T35 a b).f1.f1), .int .i64 ((rd_T35 a b).f1.f2), .bool ((rd_T35 a b).f1.f3), .int .u8 ((rd_T35 a b).f2)]] rfl ag_ ?_; (with_reducible refine (shutterref10_Cell.calls ((rd_T35 a b).f0) ((rd_T35 a b).f1.f0) ((rd_T35 a b).f1.f1) ((rd_T35 a b).f1.f2) ((rd_T35 a b).f1.f3) ((rd_T35 a b).f2) false _ aY.out).mono ?_); rintro e bP ⟨rfl, hb⟩; refine ⟨_, rfl, ?_⟩; replace i := kb' i hb; replace HB := bs_ hb; clear hb))
         go_ret
         exact ⟨er_, bl_⟩
       ·rw [if_neg aN] at H
        exact absurd H (by simp)
      ·rw [if_neg F] at H
       have aX : decide (b < (a.length : Int)) = false := decide_eq_false F
       clear F
       obtain rfl := Option.some.inj H
       obtain ⟨bg, bh, bi, bj, bk, bl, bz, bA, bB, bC, bD, bE⟩ := cells6 i.out
       go_wp2
       go_ret
       exact ⟨er_, bl_⟩
def shutterref10_Few.f (k : Nat) (b : Int) (c : Int) (a : List (S35)) (d : Int) (e : Bool) (g : Bool) : Option (Bool) := if (a.length : Int) ≤ 200 then ((shutterref10_Right.f k b c a d e g).bind fun h => (some h)) else (some false)
theorem shutterref10_Few.mono : ∀ a0 a1 a b a4 c k, LeO (shutterref10_Few.f k a0 a1 a b a4 c) (shutterref10_Few.f (k + 1) a0 a1 a b a4 c) := by
 intro a0 a1 a b a4 c k
 unfold shutterref10_Few.f
 repeat' first
   | (with_reducible exact shutterref10_Right.mono _ _ _ _ _ _ _)
   | (with_reducible exact LeO.refl _)
   | (with_reducible exact LeO.none _)
   | (with_reducible refine LeO.ite ?_ ?_)
   | (with_reducible refine LeO.bind ?_ (fun _ => ?_))
   | exact shutterref10_Right.mono _ _ _ _ _ _ _
   | exact LeO.none _
   | refine LeO.ite ?_ ?_
   | refine LeO.bind ?_ (fun _ => ?_)
theorem shutterref10_Few.calls (k : Nat) (d : Int) (g : Int) (o : Option Addr) (p : Nat) (a : List (S35)) (i : Int) (j : Bool) (l : Bool) (r : Bool) (w : World) (x : Kd.C k35 w o a.length a) (v : a.length ≤ p) (h : shutterref10_Few.f k d g a i j l = some r) :
  Calls Tryd.prog 18 #[.agg #[.int .i64 d, .int .i64 g, .slice o a.length p, .int .i64 i, .bool j, .bool l]] w fun e w' => e = .returned (.bool r) ∧ Below w.heap.size w w' := by
 have ai := Tryd.underlying24
 have B := Z x
 have A := Z v
 clear x v
 have HB := Z (Below.refl w.heap.size w)
 have H : (if (a.length : Int) ≤ 200 then ((shutterref10_Right.f k d g a i j l).bind fun q => (some q)) else (some false)) = some r := h
 clear h
 by_cases c2 : (a.length : Int) ≤ 200
 ·rw [if_pos c2] at H
  have E : decide ((a.length : Int) ≤ 200) = true := decide_eq_true c2
  have F : decide (a.length ≤ 200) = true := decide_eq_true (by omega)
  clear c2
  replace H := Option.bind_eq_some_iff.mp H
  obtain ⟨q, D, H⟩ := H
  replace H : (some q) = some r := H
  have A3 := Z D
  clear D
  obtain rfl := Option.some.inj H
  go_enter Tryd.func18, Tryd.ntmps18
  go_wp2_with (first | ((with_reducible refine gate_dst (N := 1) rfl ?_); refine bx_ 1 24 #[.int .i64 d, .int .i64 g, .slice o a.length p, .int .i64 i, .bool j, .bool l] ?_; intro c hg w4 hbox hb; have b := Z (hbox); have z := Z (ln_ hg : w.heap.size ≤ c); have y := z; replace HB := bs_ hb; clear hb hbox hg; obtain ⟨G, I, J, K, L, M, U, V, W, X, Y, aa⟩ := cells6 b.out) | (go_at_call 20; (with_reducible refine (shutterref10_Right.calls k d g _ _ a i j l q _ ?side1 ?side2 A3.out).mono ?_); (case side1 => repeat (first | exact (Kd.C_below B.out HB.out) | (with_reducible apply pC))); (case side2 => exact A.out); rintro e w6 ⟨rfl, hb⟩; replace b := kb' b hb; replace HB := bs_ hb; clear hb))
  go_ret
  exact ⟨er_, bl_⟩
 ·rw [if_neg c2] at H
  have E : decide ((a.length : Int) ≤ 200) = false := decide_eq_false c2
  have F : decide (a.length ≤ 200) = false := decide_eq_false (by omega)
  clear c2
  obtain rfl := Option.some.inj H
  go_enter Tryd.func18, Tryd.ntmps18
  go_wp2_with (first | ((with_reducible refine gate_dst (N := 1) rfl ?_); refine bx_ 1 24 #[.int .i64 d, .int .i64 g, .slice o a.length p, .int .i64 i, .bool j, .bool l] ?_; intro c hg w7 hbox hb; have b := Z (hbox); have z := Z (ln_ hg : w.heap.size ≤ c); have y := z; replace HB := bs_ hb; clear hb hbox hg; obtain ⟨O, P, Q, R, S, T, ab, ac, ad, ae, af, ag⟩ := cells6 b.out))
  go_ret
  exact ⟨er_, bl_⟩
section
def api_Code.f (a : Option Er) (b : List S164) : Option Int :=
 match a with
 | none => some 0
 | some (.num n) => some n
 | some .spot => match b with | [s] => some s.f1 | _ => none
theorem api_Code.calls (c : Option Er) (g : Option Addr) (d : Nat) (a : List S164) (r : Int) (w : World) (b : Kd.C k164 w g a.length a) (i : a.length ≤ d) (hG : LaidG w) (h : api_Code.f c a = some r) :
  Calls Tryd.prog 25 #[errW (.slice g a.length d) c] w fun e w' => e = .returned (.int .i64 r) ∧ Below w.heap.size w w' := by
 rcases c with _ | q
 ·obtain rfl := Option.some.inj h
  rw [errW_none]
  clear b h
  go_enter Tryd.func25, Tryd.ntmps25
  go_wp2
  go_ret
  exact ⟨rfl, below_alloc (Below.refl _ _) _⟩
 ·cases q with
  | num n =>
   obtain rfl := Option.some.inj h
   rw [errW_some, show (Er.num n).ty = 52 from rfl, show (Er.num n).pay _ = .int .i64 n from rfl]
   clear b h
   have HA := Z (EA.hit n ⟨w.heap.size, 0, none⟩ (.int .i64 0) (w.alloc (.cells #[.int .i64 0] 52)) (laidG_alloc hG _) (by simp) (by rw [frozen?_alloc_cells]; simp [World.frozen?]))
   go_enter Tryd.func25, Tryd.ntmps25
   go_wp2_with (go_at_call 49; refine HA.out.mono ?_; rintro e w' ⟨rfl, rfl⟩)
   go_ret
   exact ⟨rfl, below_alloc (below_alloc (below_alloc (below_alloc (below_alloc (Below.refl _ _) _) _) _) _) _⟩
  | spot =>
   match a, b, i, h with
   | [s], hr, hc, h =>
    obtain rfl := Option.some.inj h
    obtain ⟨ad, rfl, k, j⟩ := spot_at hr
    rw [errW_some, show Er.spot.ty = 76 from rfl, show Er.spot.pay (.slice (some ad) ([s] : List S164).length d) = .pointer (some ad) from rfl]
    have hlt := bk_ w ⟨ad.block, ad.off + 1, none⟩ j
    have HA := Z (EA.spot ad s.f1 ⟨w.heap.size, 0, none⟩ (.int .i64 0) (w.alloc (.cells #[.int .i64 0] 52)) (by rw [World.cell?_alloc_lt _ _ ⟨ad.block, ad.off + 1, none⟩ hlt]; exact j) (laidG_alloc hG _) (by simp) (by rw [frozen?_alloc_cells]; simp [World.frozen?]))
    clear k j hr hlt h
    go_enter Tryd.func25, Tryd.ntmps25
    go_wp2_with (go_at_call 49; refine HA.out.mono ?_; rintro e w' ⟨rfl, rfl⟩)
    go_ret
    exact ⟨rfl, below_alloc (below_alloc (below_alloc (below_alloc (below_alloc (Below.refl _ _) _) _) _) _) _⟩
end
section
open Go.Shelf
attribute [local go_sem] Oper.semAt_some
def isF (l : List S35) (i : Int) : Bool := (rd_T35 l i).f0
def findW (p : Int → Bool) (g : Nat → Int) : Nat → Nat → Int
 | 0, _ => -1
 | c + 1, s => if p (g s) = true then g s else findW p g c (s + 1)
theorem findW_eq (p : Int → Bool) (g : Nat → Int) : ∀ c s j, s ≤ j → j < s + c → p (g j) = true → (∀ i, s ≤ i → i < j → p (g i) = false) → findW p g c s = g j
 | 0, s, j, d, f, _, _ => by omega
 | c + 1, s, j, d, f, hp, hn => by
  unfold findW
  by_cases e : s = j
  ·subst e; rw [if_pos hp]
  ·rw [if_neg (by rw [hn s (Nat.le_refl _) (by omega)]; decide)]
   exact findW_eq p g c (s + 1) j (by omega) (by omega) hp (fun i a b => hn i (by omega) b)
theorem findW_none (p : Int → Bool) (g : Nat → Int) : ∀ c s, (∀ i, s ≤ i → i < s + c → p (g i) = false) → findW p g c s = -1
 | 0, s, _ => rfl
 | c + 1, s, hn => by
  unfold findW
  rw [if_neg (by rw [hn s (Nat.le_refl _) (by omega)]; decide)]
  exact findW_none p g c (s + 1) (fun i a b => hn i (by omega) (by omega))
theorem findW_cases (p : Int → Bool) (g : Nat → Int) : ∀ c s, (findW p g c s = -1 ∧ ∀ i, s ≤ i → i < s + c → p (g i) = false) ∨ ∃ j, s ≤ j ∧ j < s + c ∧ p (g j) = true ∧ (∀ i, s ≤ i → i < j → p (g i) = false) ∧ findW p g c s = g j
 | 0, s => .inl ⟨rfl, fun i a b => by omega⟩
 | c + 1, s => by
  unfold findW
  by_cases e : p (g s) = true
  ·exact .inr ⟨s, Nat.le_refl _, by omega, e, fun i a b => by omega, by rw [if_pos e]⟩
  ·rw [if_neg e]
   rcases findW_cases p g c (s + 1) with ⟨d, f⟩ | ⟨j, d, f, h, k, l⟩
   ·exact .inl ⟨d, fun i a b => by
     by_cases ei : i = s
     ·subst ei; simpa using e
     ·exact f i (by omega) (by omega)⟩
   ·exact .inr ⟨j, by omega, by omega, h, fun i a b => by
     by_cases ei : i = s
     ·subst ei; simpa using e
     ·exact k i (by omega) b, l⟩
def beginI (l : List S35) (a : Int) : Int := findW (isF l) (fun j => (a - j) % (l.length : Int)) l.length 0
theorem begin_range (l : List S35) (a : Int) (hp : 0 < l.length) : beginI l a = -1 ∨ (0 ≤ beginI l a ∧ beginI l a < l.length ∧ isF l (beginI l a) = true) := by
 rcases findW_cases (isF l) (fun j => (a - j) % (l.length : Int)) l.length 0 with ⟨h, _⟩ | ⟨j, _, _, b, _, h⟩
 ·exact .inl h
 ·right
  unfold beginI
  rw [h]
  exact ⟨Int.emod_nonneg _ (by omega), Int.emod_lt_of_pos _ (by omega), b⟩
theorem begin_here (l : List S35) (a : Int) (c : 0 ≤ a) (d : a < l.length) (h : isF l a = true) : beginI l a = a := by
 have e : (a - ((0 : Nat) : Int)) % (l.length : Int) = a := by simp; exact Int.emod_eq_of_lt c d
 have := findW_eq (isF l) (fun j => (a - j) % (l.length : Int)) l.length 0 0 (by omega) (by omega) (by show isF l ((a - ((0 : Nat) : Int)) % (l.length : Int)) = true; rw [e]; exact h) (fun i a b => by omega)
 rw [beginI, this]; exact e
theorem way_back (n : Nat) (a : Int) (j : Nat) : wayI n a (-1) j = (a - ((j + 1 : Nat) : Int)) % (n : Int) := by
 unfold wayI sgnI; simp; congr 1; omega
theorem begin_way (l : List S35) (a : Int) (c : 0 ≤ a) (d : a < l.length) (h : isF l a = false) (k : Nat) (hk : k < l.length) (hp : isF l (wayI l.length a (-1) k) = true) (hn : ∀ i, i < k → isF l (wayI l.length a (-1) i) = false) : beginI l a = wayI l.length a (-1) k := by
 have hkn : k + 1 < l.length := by
  rcases Nat.lt_or_ge (k + 1) l.length with h' | h'
  ·exact h'
  ·have ek : k + 1 = l.length := by omega
   have : wayI l.length a (-1) k = a := by
    rw [way_back, ek, Int.sub_emod_right]; exact Int.emod_eq_of_lt c d
   rw [this, h] at hp; exact absurd hp (by decide)
 have := findW_eq (isF l) (fun j => (a - j) % (l.length : Int)) l.length 0 (k + 1) (by omega) (by omega) (by show isF l ((a - ((k + 1 : Nat) : Int)) % (l.length : Int)) = true; rw [← way_back]; exact hp) (fun i _ b => by
  show isF l ((a - (i : Int)) % (l.length : Int)) = false
  rcases i with _ | i
  ·simp; rw [Int.emod_eq_of_lt c d]; exact h
  ·rw [← way_back]; exact hn i (by omega))
 rw [beginI, this]; exact (way_back _ _ _).symm
theorem begin_none (l : List S35) (a : Int) (c : 0 ≤ a) (d : a < l.length) (h : isF l a = false) (hn : ∀ i, i < l.length → isF l (wayI l.length a (-1) i) = false) : beginI l a = -1 := by
 refine findW_none _ _ _ _ (fun i _ b => ?_)
 show isF l ((a - (i : Int)) % (l.length : Int)) = false
 rcases i with _ | i
 ·simp; rw [Int.emod_eq_of_lt c d]; exact h
 ·rw [← way_back]; exact hn i (by omega)
theorem cell_f0 {w : World} {A : Option Addr} {l : List S35} (hr : Kd.C k35 w A l.length l) (i : Int) (a : 0 ≤ i) (b : i < l.length) : ∃ ad, A = some ad ∧ w.cell? (ad.add (i.toNat * 6)) = some (.bool (isF l i)) ∧ (ad.add (i.toNat * 6)).block < w.heap.size := by
 obtain ⟨ad, e, h, _⟩ := at_T35 hr i a b
 exact ⟨ad, e, h, bk_ w _ h⟩
theorem Begin_here (r c : Int) (A : Option Addr) (cp : Nat) (l : List S35) (cu : Int) (lo ins : Bool) (a : Int) (w : World) (hr : Kd.C k35 w A l.length l) (hc : l.length ≤ cp) (b : 0 ≤ a) (d : a < l.length) (hf : isF l a = true) :
  Calls Tryd.prog 62 #[.agg #[.int .i64 r, .int .i64 c, .slice A l.length cp, .int .i64 cu, .bool lo, .bool ins], .int .i64 a] w fun e w' => e = .returned (.int .i64 (beginI l a)) ∧ Below w.heap.size w w' := by
 have hb := begin_here l a b d hf
 rw [hb]
 obtain ⟨ad, rfl, hcell, hlt⟩ := cell_f0 hr a b d
 rw [hf] at hcell
 clear hf hb
 have f := Tryd.underlying24
 have g := Tryd.underlying35
 go_enter Tryd.func62, Tryd.ntmps62
 go_wp2
 refine bodyPost_ret (v := .int .i64 a) (by simp [results, Tryd.results62, go_sem]) rfl ⟨rfl, ?_⟩
 exact ((Below.refl _ w).alloc (Nat.le_refl _) _).alloc (by simp) _
theorem uptoI_last {α : Type} (f : Nat → α) (k : Nat) (ini : List α) (x : α) (h : uptoI f k = ini ++ [x]) : ∃ j, k = j + 1 ∧ ini = uptoI f j ∧ x = f j := by
 rcases k with _ | j
 ·simp [uptoI] at h
 ·rw [uptoI_succ] at h
  obtain ⟨a, b⟩ := List.append_inj' h rfl
  exact ⟨j, rfl, a.symm, by simpa using b.symm⟩
theorem mem_uptoI {α : Type} (f : Nat → α) (k j : Nat) (h : j < k) : f j ∈ uptoI f k := by
 simp only [uptoI, List.mem_map, List.mem_range]; exact ⟨j, h, rfl⟩
theorem Begin_loop (r c : Int) (A : Option Addr) (cp : Nat) (l : List S35) (cu : Int) (lo ins : Bool) (a : Int) (w : World) (hr : Kd.C k35 w A l.length l) (hc : l.length ≤ cp) (hn : l.length ≤ 16383) (d : 0 ≤ a) (f : a < l.length) (hf : isF l a = false) :
  CallsIn Fence.wide 5 Tryd.prog 62 #[.agg #[.int .i64 r, .int .i64 c, .slice A l.length cp, .int .i64 cu, .bool lo, .bool ins], .int .i64 a] w fun e w' => e = .returned (.int .i64 (beginI l a)) ∧ Below w.heap.size w w' := by
 have hpos : 0 < l.length := by omega
 obtain ⟨ad, rfl, hcell, hlt⟩ := cell_f0 hr a d f
 have Hfa := Z hf
 rw [hf] at hcell
 clear hf
 have q := Tryd.underlying24
 have t := Tryd.underlying35
 refine callsIn_of_wp_marks Tryd.func62 rfl trivial ?_ rfl
 simp only [Tryd.ntmps62, List.size_toArray, List.length_cons, List.length_nil, Nat.reduceAdd, Nat.reduceSub, Array.replicate_succ, Array.replicate_zero, List.push_toArray, List.append_toArray, List.nil_append, List.cons_append]
 gi_wp2_with (refine ⟨trivial, ?_⟩; gi_at_call 75; refine (callsIn_wide.2 (Round_exact r c _ _ cp cu lo ins a (-1) _)).mono ?_; rintro e w' ⟨rfl, rfl⟩)
 have o : Below w.heap.size w (((((w.alloc (.cells #[.int .i64 r, .int .i64 c, .slice (some ad) l.length cp, .int .i64 cu, .bool lo, .bool ins] 24)).alloc (.cells #[.int .i64 0] 3)).alloc (.cells #[.int .i64 r, .int .i64 c, .slice (some ad) l.length cp, .int .i64 cu, .bool lo, .bool ins] 24)).alloc (.cells #[.int .i64 a] 3)).alloc (.cells #[.int .i64 (-1)] 3)) :=
  (((((Below.refl _ w).alloc (Nat.le_refl _) _).alloc (by simp) _).alloc (by simp; omega) _).alloc (by simp; omega) _).alloc (by simp; omega) _
 have k1 := blk_new w (.cells #[.int .i64 r, .int .i64 c, .slice (some ad) l.length cp, .int .i64 cu, .bool lo, .bool ins] 24)
 have k2 := blk_new (w.alloc (.cells #[.int .i64 r, .int .i64 c, .slice (some ad) l.length cp, .int .i64 cu, .bool lo, .bool ins] 24)) (.cells #[.int .i64 0] 3)
 have k3 := blk_new ((w.alloc (.cells #[.int .i64 r, .int .i64 c, .slice (some ad) l.length cp, .int .i64 cu, .bool lo, .bool ins] 24)).alloc (.cells #[.int .i64 0] 3)) (.cells #[.int .i64 r, .int .i64 c, .slice (some ad) l.length cp, .int .i64 cu, .bool lo, .bool ins] 24)
 have k4 := blk_new (((w.alloc (.cells #[.int .i64 r, .int .i64 c, .slice (some ad) l.length cp, .int .i64 cu, .bool lo, .bool ins] 24)).alloc (.cells #[.int .i64 0] 3)).alloc (.cells #[.int .i64 r, .int .i64 c, .slice (some ad) l.length cp, .int .i64 cu, .bool lo, .bool ins] 24)) (.cells #[.int .i64 a] 3)
 have k5 := blk_new ((((w.alloc (.cells #[.int .i64 r, .int .i64 c, .slice (some ad) l.length cp, .int .i64 cu, .bool lo, .bool ins] 24)).alloc (.cells #[.int .i64 0] 3)).alloc (.cells #[.int .i64 r, .int .i64 c, .slice (some ad) l.length cp, .int .i64 cu, .bool lo, .bool ins] 24)).alloc (.cells #[.int .i64 a] 3)) (.cells #[.int .i64 (-1)] 3)
 simp only [World.size_alloc] at k2 k3 k4 k5
 refine wpIn_rangeFunc_ownG rfl (by omega) (gf := 93) (lb := #[.pointer (some ⟨w.heap.size + 1 + 1, 0, none⟩), .pointer (some ⟨w.heap.size + 1 + 1 + 1, 0, none⟩), .pointer (some ⟨w.heap.size + 1 + 1 + 1 + 1, 0, none⟩)]) rfl trivial (enters_of Tryd.func93 (by kernel_rfl) rfl)
  (round_stops 4 (by omega) (w.heap.size + 1 + 1) (w.heap.size + 1 + 1 + 1) (w.heap.size + 1 + 1 + 1 + 1) r c (some ad) l.length cp cu lo ins a (-1) hpos hn d f _ (blk_alloc (blk_alloc k3 _) _) (blk_alloc k4 _) k5) Keep3.trans (Keep3.put (by simp) (by simp) (by simp)) (Below.refl _ _) (fun _ => rfl)
  (fun pre W => ((∀ x ∈ pre, isF l x.1 = false) ∧ W.heap[w.heap.size]? = some (.cells #[.int .i64 r, .int .i64 c, .slice (some ad) l.length cp, .int .i64 cu, .bool lo, .bool ins] 24 (0, 0)) ∧ Boxed W (w.heap.size + 1) 3 (.int .i64 0)) ∧ Below w.heap.size w W)
  (fun c pre W => (c = .ret ∧ ∃ ini last, pre = ini ++ [last] ∧ (∀ x ∈ ini, isF l x.1 = false) ∧ isF l last.1 = true ∧ Boxed W (w.heap.size + 1) 3 (.int .i64 last.1)) ∧ Below w.heap.size w W)
  (OwnFrom.and (Own.from (fun s A B row hs hg hr => ⟨hs.1, (grownBy_keeps_cells hg hr hs.2.1 rfl).trans hs.2.1, (grownBy_keeps_cells hg hr hs.2.2 rfl).trans hs.2.2⟩) _) (ownFrom_below (Nat.le_refl _) (by simp; omega)))
  (fun c => OwnFrom.and (Own.from (fun s A B row hs hg hr => by obtain ⟨hc, ini, last, g, h, m, n⟩ := hs; exact ⟨hc, ini, last, g, h, m, (grownBy_keeps_cells hg hr n rfl).trans n⟩) _) (ownFrom_below (Nat.le_refl _) (by simp; omega)))
  ⟨⟨by simp, blk_alloc (blk_alloc (blk_alloc (blk_alloc k1 _) _) _) _, blk_alloc (blk_alloc (blk_alloc k2 _) _) _⟩, o⟩
  (fun x => { tmps := #[.agg #[.int .i64 r, .int .i64 c, .slice (some ad) l.length cp, .int .i64 cu, .bool lo, .bool ins], .int .i64 a, .pointer (some ⟨w.heap.size, 0, none⟩), undef, .pointer (some ⟨w.heap.size + 1, 0, none⟩), .int .i64 x.1, .pointer (some ⟨w.heap.size, 2, none⟩), .slice (some ad) l.length cp, .int .i64 a, .pointer (some (ad.add (a.toNat * 6))), .pointer (some (ad.add (a.toNat * 6))), .bool false, undef, .agg #[.int .i64 r, .int .i64 c, .slice (some ad) l.length cp, .int .i64 cu, .bool lo, .bool ins], .int .i64 a, .func (.func 93) #[] #[.pointer (some ⟨w.heap.size + 1 + 1, 0, none⟩), .pointer (some ⟨w.heap.size + 1 + 1 + 1, 0, none⟩), .pointer (some ⟨w.heap.size + 1 + 1 + 1 + 1, 0, none⟩)], .int .i64 x.1, undef, undef, undef, undef, undef, undef, undef], defers := [] }) ?assign ?body ?done ?stop
 case assign =>
  intro l x W K hK
  gi_wp2
  exact hK
 case body =>
  rintro lp pre x W ⟨⟨hp, hS, hR⟩, hB⟩ _
  obtain ⟨ad', e', hcx, hltx⟩ := cell_f0 hr x.1 x.2.1 x.2.2
  cases e'
  have hcW := (hB.cell hltx).trans hcx
  have u := (blk_cell hS 2).trans rfl
  have v := x.2.1
  have z := x.2.2
  have rC := hR.cell
  have rF := hR.frozen
  cases hfx : isF l x.1 with
  | true =>
   rw [hfx] at hcW
   gi_wp2
   exact ⟨(KeepsOthers.setCell _ _ _).from _, ⟨rfl, pre, x, rfl, hp, hfx, hR.set _⟩, hB.setCell (p := ⟨w.heap.size + 1, 0, none⟩) (Nat.le_succ _) _⟩
  | false =>
   rw [hfx] at hcW
   gi_wp2
   exact ⟨KeepsFrom.refl _ _, Keep3.refl _ _ _ _, ⟨fun y hy => (List.mem_append.1 hy).elim (hp y) (fun e => by simp at e; subst e; exact hfx), hS, hR⟩, hB⟩
 case done =>
  rintro D ys W hD rfl ⟨⟨hne, hS, hR⟩, hB⟩ hK
  have rC := hR.cell
  have rF := hR.frozen
  gi_wp2
  have hK' := (KeepsOthers.setCell W ⟨w.heap.size + 1, 0, none⟩ (.int .i64 (-1))).same D _ hK rfl
  refine ⟨by simp, .inl ⟨_, _, rfl, run_takeDeferred hK', ?_⟩⟩
  have b := cell_kept (hR.set (.int .i64 (-1))).cell (grownBy_putObj' _ D (.deferred none)) (fun r e => by cases e; exact ⟨_, hK', rfl⟩)
  have hE := begin_none l a d f Hfa.out (fun i hi => hne _ (mem_uptoI (wayS hpos a (-1)) l.length i hi))
  refine ⟨.int .i64 (-1), ?_, by rw [hE], (hB.setCell (p := ⟨w.heap.size + 1, 0, none⟩) (Nat.le_succ _) _).trans (belowK_b (w := w) (Nat.le_refl _) _ D _ _ (by simp at hD; omega) hK' rfl rfl)⟩
  simp [results, Tryd.results62, go_sem, b]
 case stop =>
  rintro D c pre W hD ⟨k, hk, rfl⟩ ⟨⟨rfl, ini, last, g, h, m, hR⟩, hB⟩ hK
  gi_wp2
  refine ⟨by simp, .inl ⟨_, _, rfl, run_takeDeferred hK, ?_⟩⟩
  have b := cell_kept hR.cell (grownBy_putObj' _ D (.deferred none)) (fun r e => by cases e; exact ⟨_, hK, rfl⟩)
  obtain ⟨j, rfl, rfl, rfl⟩ := uptoI_last _ _ _ _ g
  have hE := begin_way l a d f Hfa.out j (by omega) m (fun i hi => h _ (mem_uptoI (wayS hpos a (-1)) j i hi))
  refine ⟨.int .i64 (wayI l.length a (-1) j), ?_, by rw [hE], hB.trans (belowK_b (w := w) (Nat.le_refl _) _ D _ _ (by simp at hD; omega) hK rfl rfl)⟩
  simp [results, Tryd.results62, go_sem, b]
  rfl
theorem guard3 {α : Type} {p q s : Prop} [Decidable p] [Decidable q] [Decidable s] {x r : α} (h : (if p then (if q then (if s then some x else none) else none) else none) = some r) : p ∧ q ∧ s ∧ x = r := by
 by_cases hp : p
 ·rw [if_pos hp] at h
  by_cases hq : q
  ·rw [if_pos hq] at h
   by_cases hs : s
   ·rw [if_pos hs] at h; exact ⟨hp, hq, hs, Option.some.inj h⟩
   ·rw [if_neg hs] at h; cases h
  ·rw [if_neg hq] at h; cases h
 ·rw [if_neg hp] at h; cases h
def field_Begin.f (b : Int) (c : Int) (a : List (S35)) (d : Int) (e : Bool) (g : Bool) (a1 : Int) : Option Int := if a.length ≤ 16383 then (if 0 ≤ a1 then (if a1 < (a.length : Int) then (some (beginI a a1)) else (none)) else (none)) else (none)
theorem field_Begin.calls (c : Int) (d : Int) (b : Option Addr) (k : Nat) (a : List (S35)) (g : Int) (i : Bool) (j : Bool) (a1 : Int) (r : Int) (w : World) (m : Kd.C k35 w b a.length a) (l : a.length ≤ k) (h : field_Begin.f c d a g i j a1 = some r) :
  Calls Tryd.prog 62 #[.agg #[.int .i64 c, .int .i64 d, .slice b a.length k, .int .i64 g, .bool i, .bool j], .int .i64 a1] w fun e w' => e = .returned (.int .i64 r) ∧ Below w.heap.size w w' := by
 obtain ⟨hn, n, o, rfl⟩ := guard3 h
 cases hf : isF a a1 with
 | true => exact Begin_here c d b k a g i j a1 w m l n o hf
 | false => exact callsIn_wide.1 (Begin_loop c d b k a g i j a1 w m l hn n o hf)
end
def field_Of.f (c : Int) (d : Int) (b : List (S35)) (e : Int) (g : Bool) (h : Bool) (a1 : Int) : Option (Bool × Bool × Int × Bool) := (field_Begin.f c d b e g h a1).bind fun a => (if a < 0 then (some (false, false, 0, false)) else (if 0 ≤ a then (if a < (b.length : Int) then (some ((rd_T35 b a).f1.f0, (rd_T35 b a).f1.f1, (rd_T35 b a).f1.f2, (rd_T35 b a).f1.f3)) else (none)) else (none)))
theorem field_Of.calls (k : Int) (l : Int) (v : Option Addr) (x : Nat) (b : List (S35)) (m : Int) (n : Bool) (o : Bool) (a1 : Int) (W : Bool) (X : Bool) (Y : Int) (r4 : Bool) (w : World) (R : Kd.C k35 w v b.length b) (Q : b.length ≤ x) (h : field_Of.f k l b m n o a1 = some (W, X, Y, r4)) :
  Calls Tryd.prog 69 #[.agg #[.int .i64 k, .int .i64 l, .slice v b.length x, .int .i64 m, .bool n, .bool o], .int .i64 a1] w fun e w' => e = .returned (.agg #[.bool W, .bool X, .int .i64 Y, .bool r4]) ∧ Below w.heap.size w w' := by
 have bg := Tryd.underlying24
 have bh := Tryd.underlying33
 have F := Z R
 have M := Z Q
 clear R Q
 have HB := Z (Below.refl w.heap.size w)
 have H : ((field_Begin.f k l b m n o a1).bind fun a => (if a < 0 then (some (false, false, 0, false)) else (if 0 ≤ a then (if a < (b.length : Int) then (some ((rd_T35 b a).f1.f0, (rd_T35 b a).f1.f1, (rd_T35 b a).f1.f2, (rd_T35 b a).f1.f3)) else (none)) else (none)))) = some (W, X, Y, r4) := h
 clear h
 replace H := Option.bind_eq_some_iff.mp H
 obtain ⟨a, ab, H⟩ := H
 replace H : (if a < 0 then (some (false, false, 0, false)) else (if 0 ≤ a then (if a < (b.length : Int) then (some ((rd_T35 b a).f1.f0, (rd_T35 b a).f1.f1, (rd_T35 b a).f1.f2, (rd_T35 b a).f1.f3)) else (none)) else (none))) = some (W, X, Y, r4) := H
 have A3 := Z ab
 clear ab
 by_cases c4 : a < 0
 ·rw [if_pos c4] at H
  have ac : decide (a < 0) = true := decide_eq_true c4
  clear c4
  simp only [Option.some.injEq, Prod.mk.injEq] at H
  obtain ⟨rfl, rfl, rfl, rfl⟩ := H
  go_enter Tryd.func69, Tryd.ntmps69
  go_wp2_with (first | ((with_reducible refine gate_dst (N := 2) rfl ?_); refine bx_ 2 24 #[.int .i64 k, .int .i64 l, .slice v b.length x, .int .i64 m, .bool n, .bool o] ?_; intro u hg w5 hbox hb; have c := Z (hbox); have U := Z (ln_ hg : w.heap.size ≤ u); have S := U; replace HB := bs_ hb; clear hb hbox hg) | ((with_reducible refine gate_dst (N := 4) rfl ?_); refine bx_ 4 33 #[.bool false, .bool false, .int .i64 0, .bool false] ?_; intro p hg w6 hbox hb; have d := Z (hbox); have V := Z (ln_ hg : w.heap.size ≤ p); have T := V; replace HB := bs_ hb; have q := nl' c hg; have r := ng' c hg; replace c := kb' c hb; clear hb hbox hg; have be := q.out; have bf := r.out; obtain ⟨aW, aX, aY, aZ, a0, a2, a3, a4, a5, a6, a7, a8⟩ := cells6 c.out) | ((with_reducible refine gate_callee (f := 62) rfl ?_); refine goesL_ (some 8) rfl rfl Tryd.func62 (by kernel_rfl) rfl #[.agg #[.int .i64 k, .int .i64 l, .slice v b.length x, .int .i64 m, .bool n, .bool o], .int .i64 a1] rfl ag_ ?_; (with_reducible refine (field_Begin.calls k l _ _ b m n o a1 a _ ?side1 ?side2 A3.out).mono ?_); (case side1 => repeat (first | exact (Kd.C_below F.out HB.out) | (with_reducible apply pC))); (case side2 => exact M.out); rintro e w9 ⟨rfl, hb⟩; refine ⟨_, rfl, ?_⟩; replace c := kb' c hb; replace d := kb' d hb; replace HB := bs_ hb; clear hb; obtain ⟨ae, af, ag, ah, aA, aB, aC, aD⟩ := cells4 d.out))
  refine bodyPost_ret (results_cell_row rfl _ _ p 33 #[.bool false, .bool false, .int .i64 0, .bool false] (0, 0) _ rfl (by (with_reducible repeat apply pK); refine blk_put (cs := #[.bool false, .bool false, .int .i64 0, .bool false]) ?_ 3 _ rfl; (with_reducible repeat apply pK); refine blk_put (cs := #[.bool false, .bool false, .int .i64 0, .bool false]) ?_ 2 _ rfl; (with_reducible repeat apply pK); refine blk_put (cs := #[.bool false, .bool false, .int .i64 0, .bool false]) ?_ 1 _ rfl; (with_reducible repeat apply pK); refine blk_put (cs := #[.bool false, .bool false, .int .i64 0, .bool false]) ?_ 0 _ rfl; (with_reducible repeat apply pK); exact d.out) Tryd.underlying33 rfl (by kernel_rfl)) rfl ?_
  exact ⟨er_, bl_⟩
 ·rw [if_neg c4] at H
  have ac : decide (a < 0) = false := decide_eq_false c4
  clear c4
  by_cases O : 0 ≤ a
  ·rw [if_pos O] at H
   have ba : decide (0 ≤ a) = true := decide_eq_true O
   clear O
   by_cases P : a < (b.length : Int)
   ·rw [if_pos P] at H
    have bb : decide (a < (b.length : Int)) = true := decide_eq_true P
    clear P
    simp only [Option.some.injEq, Prod.mk.injEq] at H
    obtain ⟨rfl, rfl, rfl, rfl⟩ := H
    go_enter Tryd.func69, Tryd.ntmps69
    go_wp2_with (first | ((with_reducible refine gate_dst (N := 2) rfl ?_); refine bx_ 2 24 #[.int .i64 k, .int .i64 l, .slice v b.length x, .int .i64 m, .bool n, .bool o] ?_; intro u hg bi hbox hb; have c := Z (hbox); have U := Z (ln_ hg : w.heap.size ≤ u); have S := U; replace HB := bs_ hb; clear hb hbox hg) | ((with_reducible refine gate_dst (N := 4) rfl ?_); refine bx_ 4 33 #[.bool false, .bool false, .int .i64 0, .bool false] ?_; intro p hg bj hbox hb; have d := Z (hbox); have V := Z (ln_ hg : w.heap.size ≤ p); have T := V; replace HB := bs_ hb; have q := nl' c hg; have r := ng' c hg; replace c := kb' c hb; clear hb hbox hg; have bc := q.out; have bd := r.out; obtain ⟨ai, aj, ak, al, am, an, aE, aF, aG, aH, aI, aJ⟩ := cells6 c.out) | ((with_reducible refine gate_callee (f := 62) rfl ?_); refine goesL_ (some 8) rfl rfl Tryd.func62 (by kernel_rfl) rfl #[.agg #[.int .i64 k, .int .i64 l, .slice v b.length x, .int .i64 m, .bool n, .bool o], .int .i64 a1] rfl ag_ ?_; (with_reducible refine (field_Begin.calls k l _ _ b m n o a1 a _ ?side1 ?side2 A3.out).mono ?_); (case side1 => repeat (first | exact (Kd.C_below F.out HB.out) | (with_reducible apply pC))); (case side2 => exact M.out); rintro e bk ⟨rfl, hb⟩; refine ⟨_, rfl, ?_⟩; replace c := kb' c hb; replace d := kb' d hb; replace HB := bs_ hb; clear hb; obtain ⟨ao, ap, aq, ar, au, av, aK, aL, aM, aN, aO, aP⟩ := cells6 c.out; have K : 0 ≤ (a : Int) := od_; have L : a < (b.length : Int) := od_; obtain ⟨a9, ad, y, z, A, B, D, E⟩ := at_T35 F.out a K L; cases ad; replace y := (HB.out.cell (bk_ w _ y)).trans y; replace z := (HB.out.cell (bk_ w _ z)).trans z; replace A := (HB.out.cell (bk_ w _ A)).trans A; replace B := (HB.out.cell (bk_ w _ B)).trans B; replace D := (HB.out.cell (bk_ w _ D)).trans D; replace E := (HB.out.cell (bk_ w _ E)).trans E; replace K := eq_true K; replace L := eq_true L; obtain ⟨aw, ax, ay, az, aQ, aR, aS, aT⟩ := cells4 d.out))
    refine bodyPost_ret (results_cell_row rfl _ _ p 33 #[.bool ((rd_T35 b a).f1.f0), .bool ((rd_T35 b a).f1.f1), .int .i64 ((rd_T35 b a).f1.f2), .bool ((rd_T35 b a).f1.f3)] (0, 0) _ rfl (by (with_reducible repeat apply pK); refine blk_put (cs := #[.bool ((rd_T35 b a).f1.f0), .bool ((rd_T35 b a).f1.f1), .int .i64 ((rd_T35 b a).f1.f2), .bool false]) ?_ 3 _ rfl; (with_reducible repeat apply pK); refine blk_put (cs := #[.bool ((rd_T35 b a).f1.f0), .bool ((rd_T35 b a).f1.f1), .int .i64 0, .bool false]) ?_ 2 _ rfl; (with_reducible repeat apply pK); refine blk_put (cs := #[.bool ((rd_T35 b a).f1.f0), .bool false, .int .i64 0, .bool false]) ?_ 1 _ rfl; (with_reducible repeat apply pK); refine blk_put (cs := #[.bool false, .bool false, .int .i64 0, .bool false]) ?_ 0 _ rfl; (with_reducible repeat apply pK); exact d.out) Tryd.underlying33 rfl (by kernel_rfl)) rfl ?_
    exact ⟨er_, bl_⟩
   ·rw [if_neg P] at H
    exact absurd H (by simp)
  ·rw [if_neg O] at H
   exact absurd H (by simp)
def field_Open.f (c : Int) (d : Int) (a : List (S35)) (e : Int) (g : Bool) (h : Bool) (a1 : Int) : Option (Bool) := if 0 ≤ a1 then (if a1 < (a.length : Int) then (if ((rd_T35 a a1).f0 = true) then (some false) else ((field_Of.f c d a e g h a1).bind fun b => (some (!b.1)))) else (none)) else (none)
theorem field_Open.calls (l : Int) (m : Int) (A : Option Addr) (D : Nat) (a : List (S35)) (n : Int) (o : Bool) (p : Bool) (a1 : Int) (r : Bool) (w : World) (K : Kd.C k35 w A a.length a) (J : a.length ≤ D) (h : field_Open.f l m a n o p a1 = some r) :
  Calls Tryd.prog 44 #[.agg #[.int .i64 l, .int .i64 m, .slice A a.length D, .int .i64 n, .bool o, .bool p], .int .i64 a1] w fun e w' => e = .returned (.bool r) ∧ Below w.heap.size w w' := by
 have aA := Tryd.underlying24
 have aB := Tryd.underlying33
 have B := Z K
 have P := Z J
 clear K J
 have HB := Z (Below.refl w.heap.size w)
 have H : (if 0 ≤ a1 then (if a1 < (a.length : Int) then (if ((rd_T35 a a1).f0 = true) then (some false) else ((field_Of.f l m a n o p a1).bind fun v => (some (!v.1)))) else (none)) else (none)) = some r := h
 clear h
 by_cases c3 : 0 ≤ a1
 ·rw [if_pos c3] at H
  have ay : decide (0 ≤ a1) = true := decide_eq_true c3
  clear c3
  by_cases c4 : a1 < (a.length : Int)
  ·rw [if_pos c4] at H
   have az : decide (a1 < (a.length : Int)) = true := decide_eq_true c4
   clear c4
   obtain ⟨S, I⟩ : ∃ b_ : Bool, b_ = ((rd_T35 a a1).f0) := ⟨_, rfl⟩
   replace H : (if (S = true) then (some false) else ((field_Of.f l m a n o p a1).bind fun v => (some (!v.1)))) = some r := by rw [← I] at H; exact H
   have k := Z I
   clear I
   by_cases c6 : (S = true)
   ·subst c6
    have H1 : (some false) = some r := by rw [if_pos rfl] at H; exact H
    clear H
    have H := H1
    clear H1
    obtain rfl := Option.some.inj H
    go_enter Tryd.func44, Tryd.ntmps44
    go_wp2_with (first | ((with_reducible refine gate_dst (N := 2) rfl ?_); refine bx_ 2 24 #[.int .i64 l, .int .i64 m, .slice A a.length D, .int .i64 n, .bool o, .bool p] ?_; intro x hg w7 hbox hb; have q := Z (hbox); have O := Z (ln_ hg : w.heap.size ≤ x); have M := O; replace HB := bs_ hb; clear hb hbox hg; obtain ⟨aj, ak, al, am, an, ao, ap, aq, ar, au, av, aw⟩ := cells6 q.out; have s : 0 ≤ (a1 : Int) := od_; have u : a1 < (a.length : Int) := od_; obtain ⟨Q, G, b, c, d, i, g, j⟩ := at_T35 B.out a1 s u; (try rw [← k.out] at b); (try rw [← k.out] at c); (try rw [← k.out] at d); (try rw [← k.out] at g); cases G; replace b := (HB.out.cell (bk_ w _ b)).trans b; replace c := (HB.out.cell (bk_ w _ c)).trans c; replace d := (HB.out.cell (bk_ w _ d)).trans d; replace i := (HB.out.cell (bk_ w _ i)).trans i; replace g := (HB.out.cell (bk_ w _ g)).trans g; replace j := (HB.out.cell (bk_ w _ j)).trans j; replace s := eq_true s; replace u := eq_true u))
    go_ret
    exact ⟨er_, bl_⟩
   ·replace c6 := Bool.eq_false_iff.mpr c6
    subst c6
    have H1 : ((field_Of.f l m a n o p a1).bind fun v => (some (!v.1))) = some r := by rw [if_neg (show ¬ (false = true) by decide)] at H; exact H
    clear H
    have H := H1
    clear H1
    replace H := Option.bind_eq_some_iff.mp H
    obtain ⟨⟨L, T, U, V⟩, R, H⟩ := H
    replace H : (some (!L)) = some r := H
    have A9 := Z R
    clear R
    obtain rfl := Option.some.inj H
    go_enter Tryd.func44, Tryd.ntmps44
    go_wp2_with (first | ((with_reducible refine gate_dst (N := 2) rfl ?_); refine bx_ 2 24 #[.int .i64 l, .int .i64 m, .slice A a.length D, .int .i64 n, .bool o, .bool p] ?_; intro x hg aD hbox hb; have q := Z (hbox); have O := Z (ln_ hg : w.heap.size ≤ x); have M := O; replace HB := bs_ hb; clear hb hbox hg; obtain ⟨W, X, Y, aa, ab, ac, ad, ae, af, ag, ah, ai⟩ := cells6 q.out; have s : 0 ≤ (a1 : Int) := od_; have u : a1 < (a.length : Int) := od_; obtain ⟨Q, G, b, c, d, i, g, j⟩ := at_T35 B.out a1 s u; (try rw [← k.out] at b); (try rw [← k.out] at c); (try rw [← k.out] at d); (try rw [← k.out] at g); cases G; replace b := (HB.out.cell (bk_ w _ b)).trans b; replace c := (HB.out.cell (bk_ w _ c)).trans c; replace d := (HB.out.cell (bk_ w _ d)).trans d; replace i := (HB.out.cell (bk_ w _ i)).trans i; replace g := (HB.out.cell (bk_ w _ g)).trans g; replace j := (HB.out.cell (bk_ w _ j)).trans j; replace s := eq_true s; replace u := eq_true u) | (go_at_call 69; (with_reducible refine (field_Of.calls l m _ _ a n o p a1 L T U V _ ?side1 ?side2 A9.out).mono ?_); (case side1 => repeat (first | exact (Kd.C_below B.out HB.out) | (with_reducible apply pC))); (case side2 => exact P.out); rintro e aE ⟨rfl, hb⟩; replace q := kb' q hb; replace HB := bs_ hb; clear hb))
    go_ret
    exact ⟨er_, bl_⟩
  ·rw [if_neg c4] at H
   exact absurd H (by simp)
 ·rw [if_neg c3] at H
  exact absurd H (by simp)
def edit_pushed.l0 : Nat → List Int → Int → Int → Int → List (S35) → Int → Bool → Bool → Option (Bool × (List (S35)))
 | 0, _, _, _, _, _, _, _, _ => none
 | k + 1, c, b, d, e, a, f, g, h => if b > 0 then (if 0 ≤ b then (if b < (c.length : Int) then (if 0 ≤ (wrap64 (b - 1)) then (if (wrap64 (b - 1)) < (c.length : Int) then (if 0 ≤ (rd c (wrap64 (b - 1))) then (if (rd c (wrap64 (b - 1))) < (a.length : Int) then (if 0 ≤ (rd c b) then (if (rd c b) < (a.length : Int) then (edit_pushed.l0 k c (wrap64 (b - 1)) d e (a.set ((rd c b) : Int).toNat (⟨(rd_T35 a (rd c (wrap64 (b - 1)))).f0, (⟨(rd_T35 a (rd c (wrap64 (b - 1)))).f1.f0, (rd_T35 a (rd c (wrap64 (b - 1)))).f1.f1, (rd_T35 a (rd c (wrap64 (b - 1)))).f1.f2, (rd_T35 a (rd c (wrap64 (b - 1)))).f1.f3⟩ : S33), (rd_T35 a (rd c (wrap64 (b - 1)))).f2⟩ : S35)) f g h) else (none)) else (none)) else (none)) else (none)) else (none)) else (none)) else (none)) else (none)) else (some (true, a))
def edit_pushed.f (k : Nat) (b : Int) (c : Int) (a : List (S35)) (d : Int) (e : Bool) (g : Bool) (l1 : List Int) : Option (Bool × (List (S35))) := (pushed_index.f l1 b c a d e g).bind fun h => (if h < 0 then (some (false, a)) else (edit_pushed.l0 k l1 h b c a d e g))
theorem edit_pushed.mono_l : ∀ k, (∀ b c d e f g i j, LeO (edit_pushed.l0 k b c d e f g i j) (edit_pushed.l0 (k + 1) b c d e f g i j))
 | 0 => fun _ _ _ _ _ _ _ _ r h => by simp [edit_pushed.l0] at h
 | k + 1 => by
  have a := edit_pushed.mono_l k
  ·intro b c d e f g i j
   unfold edit_pushed.l0
   repeat' first
   | (with_reducible exact a _ _ _ _ _ _ _ _)
   | (with_reducible exact LeO.refl _)
   | (with_reducible exact LeO.none _)
   | (with_reducible refine LeO.ite ?_ ?_)
   | (with_reducible refine LeO.bind ?_ (fun _ => ?_))
   | exact a _ _ _ _ _ _ _ _
   | exact LeO.none _
   | refine LeO.ite ?_ ?_
   | refine LeO.bind ?_ (fun _ => ?_)
theorem edit_pushed.mono : ∀ a0 a1 b c a4 d e k, LeO (edit_pushed.f k a0 a1 b c a4 d e) (edit_pushed.f (k + 1) a0 a1 b c a4 d e) := by
 intro a0 a1 b c a4 d e k
 have a := edit_pushed.mono_l k
 unfold edit_pushed.f
 repeat' first
   | (with_reducible exact a _ _ _ _ _ _ _ _)
   | (with_reducible exact LeO.refl _)
   | (with_reducible exact LeO.none _)
   | (with_reducible refine LeO.ite ?_ ?_)
   | (with_reducible refine LeO.bind ?_ (fun _ => ?_))
   | exact a _ _ _ _ _ _ _ _
   | exact LeO.none _
   | refine LeO.ite ?_ ?_
   | refine LeO.bind ?_ (fun _ => ?_)
def edit_pushed.T7 : Bool × List (List Nat × List Nat) := (true, [([], []), ([0], [0]), ([], []), ([], []), ([2, 3], [2, 3]), ([4], [4]), ([], []), ([6], [6]), ([], []), ([], []), ([9], [9]), ([8, 10], [8, 10]), ([11], [11]), ([7, 12], [7, 12]), ([13], [13]), ([1, 5, 0, 1, 2, 3, 4, 5, 6, 7, 8, 9, 10, 11, 12, 13, 14], [1, 5]), ([15, 14, 0, 1, 2, 3, 4, 5, 6, 7, 8, 9, 10, 11, 12, 13, 14], [14, 15])])
def edit_pushed.B7 : List Nat := [0, 1, 0, 0, 12, 28, 0, 64, 0, 0, 512, 1792, 3840, 8128, 16320, 32767, 65535]
theorem edit_pushed.tab7 : rtab .any (opsOf Tryd.f55 7) = edit_pushed.T7 := by kernel_rfl
theorem edit_pushed.bits7 : waitsOk edit_pushed.T7.2 edit_pushed.B7 = true := by kernel_rfl
theorem edit_pushed.calls (k : Nat) (s : Int) (u : Int) (q : Nat → Prop) (G : Value) (r : List (S35)) (x : Int) (y : Bool) (z : Bool) (A1 : Option Addr) (c1 : Nat) (l1 : List Int) (r1 : Bool) (r2 : List (S35)) (w0 w : World) (hB : Below w0.heap.size w0 w) (a8 : Kd.R k35 35 w w0.heap.size q G r) (bp : ∀ W_, Kept w W_ (fun k_ => q k_) → Kd.C (Kd.int .i64) W_ A1 l1.length l1) (bo : l1.length ≤ c1) (h : edit_pushed.f k s u r x y z l1 = some (r1, r2)) :
  Calls Tryd.prog 55 #[.agg #[.int .i64 s, .int .i64 u, G, .int .i64 x, .bool y, .bool z], .slice A1 l1.length c1] w fun e w' => e = .returned (.bool r1) ∧ Kd.R k35 35 w' w0.heap.size (fun k_ => (q k_ ∨ w.heap.size ≤ k_)) G r2 ∧ Below w0.heap.size w0 w' ∧ Kept w w' (fun k_ => q k_) := by
 have bR := Tryd.underlying24
 have bS := Tryd.underlying35
 have p := Z (show Kd.R k35 35 w w0.heap.size (fun k_ => (q k_ ∨ w.heap.size ≤ k_)) G r from Kd.R_mono a8 (fun k_ hk => (.inl hk)))
 have Y := Z bp
 have bl := Z bo
 clear bp bo
 have HK := Z (Kept.refl w (fun k_ => q k_))
 have bU := Z hB.size
 have HB := Z hB
 clear hB
 have H : ((pushed_index.f l1 s u r x y z).bind fun A => (if A < 0 then (some (false, r)) else (edit_pushed.l0 k l1 A s u r x y z))) = some (r1, r2) := h
 clear h
 replace H := Option.bind_eq_some_iff.mp H
 obtain ⟨A, bj, H⟩ := H
 replace H : (if A < 0 then (some (false, r)) else (edit_pushed.l0 k l1 A s u r x y z)) = some (r1, r2) := H
 have A3 := Z bj
 clear bj
 by_cases c4 : A < 0
 ·rw [if_pos c4] at H
  have aJ : decide (A < 0) = true := decide_eq_true c4
  clear c4
  simp only [Option.some.injEq, Prod.mk.injEq] at H
  obtain ⟨rfl, rfl⟩ := H
  obtain ⟨bk, bn, bB⟩ := Kd.R_slice p.out
  subst bB
  go_enter Tryd.func55, Tryd.ntmps55
  go_wp2_with (first | ((with_reducible refine gate_dst (N := 2) rfl ?_); refine bx_ 2 24 #[.int .i64 s, .int .i64 u, .slice bk r.length bn, .int .i64 x, .bool y, .bool z] ?_; intro m hg w6 hbox hb; replace p := rb' p hb; have d := Z (hbox); have B := Z ((by rw [hg]; exact (by first | exact HK.out.1 | exact (show Kept w _ (fun k_ => q k_) from by repeat (first | (with_reducible first | exact HK.out | apply Kept.alloc | apply Kept.drewN | apply Kept.drew) | exact HK.out)).1) : w.heap.size ≤ m)); replace HK := Z (Kept.below (S := (fun k_ => q k_)) (by repeat (first | (with_reducible first | exact HK.out | apply Kept.alloc | apply Kept.drewN | apply Kept.drew) | exact HK.out)) hb); have aq := Z ((le_new hg (below_size bl_) : w0.heap.size ≤ m)); replace HB := bs_ hb; clear hb hbox hg) | ((with_reducible refine gate_callee (f := 78) rfl ?_); refine goesL_ (some 9) rfl rfl Tryd.func78 (by kernel_rfl) rfl #[.slice A1 l1.length c1, .func (.func 79) #[] #[.pointer (some ⟨m, 0, none⟩)]] rfl ag_ ?_; (with_reducible refine (pushed_index.calls _ _ l1 s u bk bn r x y z m A _ ?side1 ?side2 ?side3 ?side4 ?side5 A3.out).mono ?_); (case side1 => exact Kd.C_kept_now Y.out (by repeat (first | (with_reducible first | exact HK.out | apply Kept.alloc | apply Kept.drewN | apply Kept.drew | refine Kept.setCell ?_ (.inr B.out) _) | exact HK.out))); (case side2 => exact bl.out); (case side3 => repeat (first | exact (Kd.R_reads' p.out).2.2 | (with_reducible apply pC))); (case side4 => exact (Kd.R_reads' p.out).2.1); (case side5 => exact (vK d.out)); rintro e w' ⟨rfl, ⟨nd, rfl⟩⟩; refine ⟨_, rfl, ?_⟩))
  go_ret
  exact ⟨er_, by (with_reducible repeat apply pR); exact p.out, bl_, by repeat (first | (with_reducible first | exact HK.out | apply Kept.alloc | apply Kept.drewN | apply Kept.drew | refine Kept.setCell ?_ (.inr B.out) _) | exact HK.out)⟩
 ·rw [if_neg c4] at H
  have aJ : decide (A < 0) = false := decide_eq_false c4
  clear c4
  have H' := Z H
  clear H
  obtain ⟨ap, ah, bC⟩ := Kd.R_slice p.out
  subst bC
  go_enter Tryd.func55, Tryd.ntmps55
  go_wp2_with (first | ((with_reducible refine gate_dst (N := 2) rfl ?_); refine bx_ 2 24 #[.int .i64 s, .int .i64 u, .slice ap r.length ah, .int .i64 x, .bool y, .bool z] ?_; intro m hg w8 hbox hb; replace p := rb' p hb; have d := Z (hbox); have B := Z ((by rw [hg]; exact (by first | exact HK.out.1 | exact (show Kept w _ (fun k_ => q k_) from by repeat (first | (with_reducible first | exact HK.out | apply Kept.alloc | apply Kept.drewN | apply Kept.drew) | exact HK.out)).1) : w.heap.size ≤ m)); replace HK := Z (Kept.below (S := (fun k_ => q k_)) (by repeat (first | (with_reducible first | exact HK.out | apply Kept.alloc | apply Kept.drewN | apply Kept.drew) | exact HK.out)) hb); have aq := Z ((le_new hg (below_size bl_) : w0.heap.size ≤ m)); replace HB := bs_ hb; clear hb hbox hg) | ((with_reducible refine gate_callee (f := 78) rfl ?_); refine goesL_ (some 9) rfl rfl Tryd.func78 (by kernel_rfl) rfl #[.slice A1 l1.length c1, .func (.func 79) #[] #[.pointer (some ⟨m, 0, none⟩)]] rfl ag_ ?_; (with_reducible refine (pushed_index.calls _ _ l1 s u ap ah r x y z m A _ ?side1 ?side2 ?side3 ?side4 ?side5 A3.out).mono ?_); (case side1 => exact Kd.C_kept_now Y.out (by repeat (first | (with_reducible first | exact HK.out | apply Kept.alloc | apply Kept.drewN | apply Kept.drew | refine Kept.setCell ?_ (.inr B.out) _) | exact HK.out))); (case side2 => exact bl.out); (case side3 => repeat (first | exact (Kd.R_reads' p.out).2.2 | (with_reducible apply pC))); (case side4 => exact (Kd.R_reads' p.out).2.1); (case side5 => exact (vK d.out)); rintro e w' ⟨rfl, ⟨nd, rfl⟩⟩; refine ⟨_, rfl, ?_⟩))
  go_loopg [6] k (fun kq v6 w' => ∃ (c : Int) (a : List (S35)), v6 = .int .i64 c ∧ Aside0 (edit_pushed.l0 kq l1 c s u a x y z = some (r1, r2)) ∧ Aside0 (kq ≤ k) ∧ Aside0 (Kd.R k35 35 w' w0.heap.size (fun k_ => (q k_ ∨ w.heap.size ≤ k_)) (.slice ap r.length ah) a) ∧ Aside0 (w'.heap[m]? = some (.cells #[.int .i64 s, .int .i64 u, (.slice ap r.length ah), .int .i64 x, .bool y, .bool z] 24 (0, 0))) ∧ Aside0 (Kept w w' (fun k_ => q k_)) ∧ Aside0 (Below w0.heap.size w0 w'))
  case atStart => exact ⟨(A), (r), (dn_), H', ⟨Nat.le_refl _⟩, ⟨by (with_reducible repeat apply pR); exact p.out⟩, ⟨vK d.out⟩, ⟨by repeat (first | (with_reducible first | exact HK.out | apply Kept.alloc | apply Kept.drewN | apply Kept.drew | refine Kept.setCell ?_ (.inr B.out) _) | exact HK.out)⟩, ⟨bl_⟩⟩
  case round =>
   clear H'
   clear aJ
   obtain ⟨c, a, rfl, HA, bm, HO_154002, d, HK, HB⟩ := hrel
   have o := (Kd.R_reads' HO_154002.out).1
   rw [o] at HO_154002
   (try simp only [o])
   (try simp only [o] at d)
   cases gk with
   | zero => exact absurd HA.out (by simp [edit_pushed.l0])
   | succ k1 =>
    have H := HA.out
    clear HA
    simp only [edit_pushed.l0] at H
    by_cases c9 : c > 0
    ·rw [if_pos c9] at H
     have br : decide (0 < c) = true := decide_eq_true c9
     clear c9
     by_cases c10 : 0 ≤ c
     ·rw [if_pos c10] at H
      have bF : decide (0 ≤ c) = true := decide_eq_true c10
      clear c10
      by_cases ar : c < (l1.length : Int)
      ·rw [if_pos ar] at H
       have bG : decide (c < (l1.length : Int)) = true := decide_eq_true ar
       clear ar
       obtain ⟨b, X⟩ : ∃ j_ : Int, (wrap64 (c - 1)) = j_ := ⟨_, rfl⟩
       replace H : (if 0 ≤ (b) then (if (b) < (l1.length : Int) then (if 0 ≤ (rd l1 (b)) then (if (rd l1 (b)) < (a.length : Int) then (if 0 ≤ (rd l1 c) then (if (rd l1 c) < (a.length : Int) then (edit_pushed.l0 k1 l1 b s u (a.set ((rd l1 c) : Int).toNat (⟨(rd_T35 a (rd l1 (b))).f0, (⟨(rd_T35 a (rd l1 (b))).f1.f0, (rd_T35 a (rd l1 (b))).f1.f1, (rd_T35 a (rd l1 (b))).f1.f2, (rd_T35 a (rd l1 (b))).f1.f3⟩ : S33), (rd_T35 a (rd l1 (b))).f2⟩ : S35)) x y z) else (none)) else (none)) else (none)) else (none)) else (none)) else (none)) = some (r1, r2) := by first | (rw [X] at H; exact H) | (simp only [X] at H ⊢; exact H)
       have bD : (IntKind.i64.wrap (c - 1)) = b := (i64_w _).trans X
       by_cases au : 0 ≤ (b)
       ·rw [if_pos au] at H
        have bH : decide (0 ≤ (b)) = true := decide_eq_true au
        clear au
        by_cases av : (b) < (l1.length : Int)
        ·rw [if_pos av] at H
         have bI : decide ((b) < (l1.length : Int)) = true := decide_eq_true av
         clear av
         by_cases aw : 0 ≤ (rd l1 (b))
         ·rw [if_pos aw] at H
          have bJ : decide (0 ≤ (rd l1 (b))) = true := decide_eq_true aw
          clear aw
          by_cases ax : (rd l1 (b)) < (a.length : Int)
          ·rw [if_pos ax] at H
           have bK : decide ((rd l1 (b)) < (a.length : Int)) = true := decide_eq_true ax
           clear ax
           by_cases ay : 0 ≤ (rd l1 c)
           ·rw [if_pos ay] at H
            have bL : decide (0 ≤ (rd l1 c)) = true := decide_eq_true ay
            clear ay
            by_cases az : (rd l1 c) < (a.length : Int)
            ·rw [if_pos az] at H
             have bM : decide ((rd l1 c) < (a.length : Int)) = true := decide_eq_true az
             clear az
             obtain ⟨a2, F⟩ : ∃ y_ : List (S35), y_ = (a.set ((rd l1 c) : Int).toNat (⟨(rd_T35 a (rd l1 (b))).f0, (⟨(rd_T35 a (rd l1 (b))).f1.f0, (rd_T35 a (rd l1 (b))).f1.f1, (rd_T35 a (rd l1 (b))).f1.f2, (rd_T35 a (rd l1 (b))).f1.f3⟩ : S33), (rd_T35 a (rd l1 (b))).f2⟩ : S35)) := ⟨_, rfl⟩
             replace H : (edit_pushed.l0 k1 l1 b s u a2 x y z) = some (r1, r2) := by first | (rw [F]; with_reducible exact H) | (have aG := (Option.bind_some _ _).symm.trans H; rw [F]; with_reducible exact aG) | (have aG := (Option.bind_some _ _).symm.trans H; with_reducible exact aG) | with_reducible exact H | (rw [F]; exact H) | exact H
             have a4 := Z F
             clear F
             have H' := Z H
             clear H
             try go_wp2
             replace HO_154002 := Z (Kd.R_drew HO_154002.out)
             replace d := Z (blk_drew d.out)
             replace HK := Z (Kept.drew HK.out)
             replace HB := Z (below_drew1 HB.out)
             have ad : 0 ≤ (c : Int) := od_
             have af : c < (l1.length : Int) := od_
             obtain ⟨ac, bs, aa⟩ := Kd.at_int (Kd.C_kept_now Y.out HK.out) c ad af
             have bx := aa
             cases bs
             replace ad := eq_true ad
             replace af := eq_true af
             have ae : 0 ≤ ((b) : Int) := od_
             have ag : (b) < (l1.length : Int) := od_
             obtain ⟨a5, bt, ab⟩ := Kd.at_int (Kd.C_kept_now Y.out HK.out) (b) ae ag
             have bz := ab
             obtain rfl : ac = a5 := (by injection bt)
             replace ae := eq_true ae
             replace ag := eq_true ag
             have al : 0 ≤ ((rd l1 (b)) : Int) := od_
             have am : (rd l1 (b)) < (a.length : Int) := od_
             obtain ⟨bE, bu, J, L, M, O, P, Q⟩ := at_T35 (Kd.R_reads' HO_154002.out).2.2 (rd l1 (b)) al am
             cases bu
             replace al := eq_true al
             replace am := eq_true am
             have a0 : 0 ≤ ((rd l1 c) : Int) := od_
             have a1 : ((rd l1 c) : Int) < ((a.length : Int) : Int) := od_
             obtain ⟨l, bQ, aK, aL, bw, bP, aH⟩ := Kd.R_form HO_154002.out (by omega)
             (first | cases aK | (injection aK with ea_ en_ ec_; (first | subst ea_ | (injection ea_ with ea_; subst ea_)); subst ec_; clear en_))
             have I := Z aL
             have bq := Z aH
             clear aL bw aH
             have g := Z (show (q l ∨ w.heap.size ≤ l) from (HO_154002.out.1 _ rfl))
             (first | simp only [add_plain] at J | skip)
             (first | simp only [add_plain] at L | skip)
             (first | simp only [add_plain] at M | skip)
             (first | simp only [add_plain] at O | skip)
             (first | simp only [add_plain] at P | skip)
             (first | simp only [add_plain] at Q | skip)
             obtain ⟨bN, a6, aM, D, E⟩ := Kd.R_elem HO_154002.out z35 ((rd l1 c) : Int) a0 a1
             obtain rfl := k35_openM aM
             have aU : World.cell? _ ⟨l, ((rd l1 c) : Int).toNat * 6, none⟩ = some (.bool ((rd_T35 a (rd l1 c)).f0)) := D 0 _ rfl
             have aV : World.cell? _ ⟨l, ((rd l1 c) : Int).toNat * 6 + 1, none⟩ = some (.bool ((rd_T35 a (rd l1 c)).f1.f0)) := D 1 _ rfl
             have aW : World.cell? _ ⟨l, ((rd l1 c) : Int).toNat * 6 + 2, none⟩ = some (.bool ((rd_T35 a (rd l1 c)).f1.f1)) := D 2 _ rfl
             have aX : World.cell? _ ⟨l, ((rd l1 c) : Int).toNat * 6 + 3, none⟩ = some (.int .i64 ((rd_T35 a (rd l1 c)).f1.f2)) := D 3 _ rfl
             have aY : World.cell? _ ⟨l, ((rd l1 c) : Int).toNat * 6 + 4, none⟩ = some (.bool ((rd_T35 a (rd l1 c)).f1.f3)) := D 4 _ rfl
             have aZ : World.cell? _ ⟨l, ((rd l1 c) : Int).toNat * 6 + 5, none⟩ = some (.int .u8 ((rd_T35 a (rd l1 c)).f2)) := D 5 _ rfl
             have aO : World.frozen? _ ⟨l, ((rd l1 c) : Int).toNat * 6, none⟩ = false := E 0
             have aP : World.frozen? _ ⟨l, ((rd l1 c) : Int).toNat * 6 + 1, none⟩ = false := E 1
             have aQ : World.frozen? _ ⟨l, ((rd l1 c) : Int).toNat * 6 + 2, none⟩ = false := E 2
             have aR : World.frozen? _ ⟨l, ((rd l1 c) : Int).toNat * 6 + 3, none⟩ = false := E 3
             have aS : World.frozen? _ ⟨l, ((rd l1 c) : Int).toNat * 6 + 4, none⟩ = false := E 4
             have aT : World.frozen? _ ⟨l, ((rd l1 c) : Int).toNat * 6 + 5, none⟩ = false := E 5
             clear a6 D E aM
             replace a0 := eq_true a0
             replace a1 := eq_true a1
             obtain ⟨bO, aB, aN, aA, a7⟩ := Kd.R_elem HO_154002.out z35 ((rd l1 c) : Int) (od_) (by have h_ : ((rd l1 c) : Int) < ((a.length : Int) : Int) := od_; first | exact h_ | (have e_ := (Kd.R_reads' HO_154002.out).1; omega) | simpa using h_)
             obtain rfl := k35_openM aN
             have ak := (Kd.R_seg HO_154002.out ((rd l1 c) : Int) (od_) (by have h_ : ((rd l1 c) : Int) < ((a.length : Int) : Int) := od_; first | exact h_ | (have e_ := (Kd.R_reads' HO_154002.out).1; omega) | simpa using h_) (seg := [.bool ((rd_T35 a (rd l1 (b))).f0), .bool ((rd_T35 a (rd l1 (b))).f1.f0), .bool ((rd_T35 a (rd l1 (b))).f1.f1), .int .i64 ((rd_T35 a (rd l1 (b))).f1.f2), .bool ((rd_T35 a (rd l1 (b))).f1.f3), .int .u8 ((rd_T35 a (rd l1 (b))).f2)]) (j := 0) aB aA (show 6 ≤ 6 from by decide) (x' := (⟨(rd_T35 a (rd l1 (b))).f0, (⟨(rd_T35 a (rd l1 (b))).f1.f0, (rd_T35 a (rd l1 (b))).f1.f1, (rd_T35 a (rd l1 (b))).f1.f2, (rd_T35 a (rd l1 (b))).f1.f3⟩ : S33), (rd_T35 a (rd l1 (b))).f2⟩ : S35)) (k35_mkM _ _ _ (⟨(rd_T35 a (rd l1 (b))).f0, (⟨(rd_T35 a (rd l1 (b))).f1.f0, (rd_T35 a (rd l1 (b))).f1.f1, (rd_T35 a (rd l1 (b))).f1.f2, (rd_T35 a (rd l1 (b))).f1.f3⟩ : S33), (rd_T35 a (rd l1 (b))).f2⟩ : S35) ) (fun _ hk => hk)).1
             rw [← a4.out] at ak
             have aI := Z ak
             clear aB aA a7 aN ak
             refine start_ (n := 17) (S := fun w' => w'.cell? ⟨m, 0, none⟩ = some (.int .i64 s) ∧ w'.cell? ⟨m, 1, none⟩ = some (.int .i64 u) ∧ w'.cell? ⟨m, 2, none⟩ = some (.slice (some ⟨l, 0, none⟩) a.length ah) ∧ w'.cell? ⟨m, 3, none⟩ = some (.int .i64 x) ∧ w'.cell? ⟨m, 4, none⟩ = some (.bool y) ∧ w'.cell? ⟨m, 5, none⟩ = some (.bool z) ∧ w'.cell? (ac.add (c).toNat) = some (.int .i64 (rd l1 c)) ∧ w'.cell? (ac.add ((b)).toNat) = some (.int .i64 (rd l1 (b))) ∧ w'.cell? ⟨l, (((rd l1 (b))).toNat * 6), none⟩ = some (.bool ((rd_T35 a (rd l1 (b))).f0)) ∧ w'.cell? ⟨l, (((rd l1 (b))).toNat * 6) + 1, none⟩ = some (.bool ((rd_T35 a (rd l1 (b))).f1.f0)) ∧ w'.cell? ⟨l, (((rd l1 (b))).toNat * 6) + 2, none⟩ = some (.bool ((rd_T35 a (rd l1 (b))).f1.f1)) ∧ w'.cell? ⟨l, (((rd l1 (b))).toNat * 6) + 3, none⟩ = some (.int .i64 ((rd_T35 a (rd l1 (b))).f1.f2)) ∧ w'.cell? ⟨l, (((rd l1 (b))).toNat * 6) + 4, none⟩ = some (.bool ((rd_T35 a (rd l1 (b))).f1.f3)) ∧ w'.cell? ⟨l, (((rd l1 (b))).toNat * 6) + 5, none⟩ = some (.int .u8 ((rd_T35 a (rd l1 (b))).f2))) (ds := [16]) (bv 17 0) (by kernel_rfl) rfl rfl ⟨(blk_cell d.out 0).trans rfl, (blk_cell d.out 1).trans rfl, (blk_cell d.out 2).trans rfl, (blk_cell d.out 3).trans rfl, (blk_cell d.out 4).trans rfl, (blk_cell d.out 5).trans rfl, (Kd.foot_int (Y.out _ (by repeat (first | exact HK.out | apply Kept.alloc | apply Kept.drewN | apply Kept.drew | refine Kept.setCell ?_ g.out _ | refine Kept.setCell ?_ g.out _ | refine Kept.setCell ?_ g.out _ | refine Kept.setCell ?_ g.out _ | refine Kept.setCell ?_ g.out _ | refine Kept.setCell ?_ g.out _))) c (of_eq_true ad) (of_eq_true af)), (Kd.foot_int (Y.out _ (by repeat (first | exact HK.out | apply Kept.alloc | apply Kept.drewN | apply Kept.drew | refine Kept.setCell ?_ g.out _ | refine Kept.setCell ?_ g.out _ | refine Kept.setCell ?_ g.out _ | refine Kept.setCell ?_ g.out _ | refine Kept.setCell ?_ g.out _ | refine Kept.setCell ?_ g.out _))) (b) (of_eq_true ae) (of_eq_true ag)), J, L, M, O, P, Q⟩ (fun hHeld => ?_); refine with_tabW edit_pushed.tab7 edit_pushed.bits7 (fun HT_ HW_ => ?_)
             generalize wr.drew = bV at HO_154002 d HK HB bq aI aO aP aQ aR aS aT aa ab J L M O P Q aU aV aW aX aY aZ hHeld ⊢
             refine pT_ HT_ 0 17 1 (some 17) ?_
             refine pT_ HT_ 2 17 5 (some 19) ?_
             refine pT_ HT_ 3 17 13 (some 20) ?_
             refine pT_ HT_ 4 17 29 (some 21) ?_
             refine pT_ HT_ 6 17 93 (some 23) ?_
             refine pT_ HT_ 8 17 349 (some 25) ?_
             refine pT_ HT_ 9 17 861 (some 26) ?_
             refine pT_ HT_ 10 17 1885 (some 27) ?_
             refine pT_ HT_ 11 17 3933 (some 28) ?_
             refine tT_ HT_ HW_ hHeld 1 17 3935 (some 18) ?_
             refine tT_ HT_ HW_ hHeld 5 17 3967 (some 22) ?_
             refine tT_ HT_ HW_ hHeld 7 17 4095 (some 24) ?_
             refine tT_ HT_ HW_ hHeld 12 17 8191 (some 29) ?_
             refine pT_ HT_ 13 17 16383 (some 30) ?_
             refine tT_ HT_ HW_ hHeld 14 17 32767 (some 31) ?_
             refine pT_ HT_ 15 17 65535 (some 32) ?_
             refine last_ (i := 16) (N := none) (bv 17 131071) rfl rfl (one_of HT_.out (by kernel_rfl)) (by decide) (fun K hK => ?_)
             refine skip_ (w1 := ?_) (by rfl) rfl ?_ ?_
             rotate_left
             ·go_simp
              rfl
             refine hK.out _ _ ?_
             clear hK K
             refine done_ (done_of HT_.out (by kernel_rfl)) ?_
             try go_wp2
             (try simp only [← o])
             go_roundg k1
             case measure => have := bm.out; omega
             case rel => exact ⟨(b), (a2), (by first | rfl | (simp; done) | (simp only [← X] <;> (first | rfl | simp)) | (simp [*]; done)), H', ⟨by have := bm.out; omega⟩, ⟨by (try simp only [o]); (with_reducible repeat apply pR); exact aI.out⟩, ⟨by (try simp only [o]); (with_reducible repeat apply pK); refine blk_far ?_ (by have h_ := Kd.R_ne HO_154002.out d.out (by decide); intro e_; exact h_ (by rw [e_]; rfl)) _; (with_reducible repeat apply pK); refine blk_far ?_ (by have h_ := Kd.R_ne HO_154002.out d.out (by decide); intro e_; exact h_ (by rw [e_]; rfl)) _; (with_reducible repeat apply pK); refine blk_far ?_ (by have h_ := Kd.R_ne HO_154002.out d.out (by decide); intro e_; exact h_ (by rw [e_]; rfl)) _; (with_reducible repeat apply pK); refine blk_far ?_ (by have h_ := Kd.R_ne HO_154002.out d.out (by decide); intro e_; exact h_ (by rw [e_]; rfl)) _; (with_reducible repeat apply pK); refine blk_far ?_ (by have h_ := Kd.R_ne HO_154002.out d.out (by decide); intro e_; exact h_ (by rw [e_]; rfl)) _; (with_reducible repeat apply pK); refine blk_far ?_ (by have h_ := Kd.R_ne HO_154002.out d.out (by decide); intro e_; exact h_ (by rw [e_]; rfl)) _; (with_reducible repeat apply pK); exact d.out⟩, ⟨by repeat (first | (with_reducible first | exact HK.out | apply Kept.alloc | apply Kept.drewN | apply Kept.drew | refine Kept.setCell ?_ g.out _ | refine Kept.setCell ?_ g.out _ | refine Kept.setCell ?_ g.out _ | refine Kept.setCell ?_ g.out _ | refine Kept.setCell ?_ g.out _ | refine Kept.setCell ?_ g.out _ | refine Kept.setCell ?_ (.inr B.out) _) | exact HK.out)⟩, ⟨by repeat (first | (with_reducible first | exact HB.out | apply below_alloc | apply pw_below_drewN | apply below_drew1 | refine below_set ?_ I.out | refine below_set ?_ I.out | refine below_set ?_ I.out | refine below_set ?_ I.out | refine below_set ?_ I.out | refine below_set ?_ I.out | refine below_set ?_ aq.out) | exact HB.out)⟩⟩
            ·rw [if_neg az] at H
             exact absurd H (by simp)
           ·rw [if_neg ay] at H
            exact absurd H (by simp)
          ·rw [if_neg ax] at H
           exact absurd H (by simp)
         ·rw [if_neg aw] at H
          exact absurd H (by simp)
        ·rw [if_neg av] at H
         exact absurd H (by simp)
       ·rw [if_neg au] at H
        exact absurd H (by simp)
      ·rw [if_neg ar] at H
       exact absurd H (by simp)
     ·rw [if_neg c10] at H
      exact absurd H (by simp)
    ·rw [if_neg c9] at H
     have br : decide (0 < c) = false := decide_eq_false c9
     clear c9
     simp only [Option.some.injEq, Prod.mk.injEq] at H
     obtain ⟨rfl, rfl⟩ := H
     go_wp2
     go_ret
     exact ⟨er_, (by first | exact (by (with_reducible repeat apply pR); exact HO_154002.out) | (simp only [o]; exact (by (with_reducible repeat apply pR); exact HO_154002.out))), bl_, by repeat (first | (with_reducible first | exact HK.out | apply Kept.alloc | apply Kept.drewN | apply Kept.drew | refine Kept.setCell ?_ (.inr B.out) _) | exact HK.out)⟩
def grid_On.f (b : Int) (c : Int) (a : List (S35)) (d : Int) (e : Bool) (g : Bool) (a1 : Int) (h : Int) : Option (Int) := if (a.length : Int) = 0 then (none) else (some (Int.tmod (wrap64 ((wrap64 (a1 + (Int.tmod h (a.length : Int)))) + (a.length : Int))) (a.length : Int)))
theorem grid_On.calls (c : Int) (d : Int) (b : Option Addr) (k : Nat) (a : List (S35)) (g : Int) (i : Bool) (j : Bool) (a1 : Int) (v : Int) (r : Int) (w : World) (n : Kd.C k35 w b a.length a) (m : a.length ≤ k) (h : grid_On.f c d a g i j a1 v = some r) :
  Calls Tryd.prog 80 #[.agg #[.int .i64 c, .int .i64 d, .slice b a.length k, .int .i64 g, .bool i, .bool j], .int .i64 a1, .int .i64 v] w fun e w' => e = .returned (.int .i64 r) ∧ Below w.heap.size w w' := by
 have T := Tryd.underlying24
 have P := Z n
 have O := Z m
 clear n m
 have HB := Z (Below.refl w.heap.size w)
 have H : (if (a.length : Int) = 0 then (none) else (some (Int.tmod (wrap64 ((wrap64 (a1 + (Int.tmod v (a.length : Int)))) + (a.length : Int))) (a.length : Int)))) = some r := h
 clear h
 by_cases c4 : (a.length : Int) = 0
 ·rw [if_pos c4] at H
  exact absurd H (by simp)
 ·rw [if_neg c4] at H
  obtain ⟨Q, R⟩ := eF_ c4
  have S : ¬ (a = []) := fun h_ => c4 (by rw [h_]; rfl)
  obtain rfl := Option.some.inj H
  go_enter Tryd.func80, Tryd.ntmps80
  go_wp2_with (first | ((with_reducible refine gate_dst (N := 3) rfl ?_); refine bx_ 3 24 #[.int .i64 c, .int .i64 d, .slice b a.length k, .int .i64 g, .bool i, .bool j] ?_; intro l hg w5 hbox hb; have o := Z (hbox); have M := Z (ln_ hg : w.heap.size ≤ l); have L := M; replace HB := bs_ hb; clear hb hbox hg; obtain ⟨x, y, z, A, B, D, E, F, G, I, J, K⟩ := cells6 o.out))
  go_ret
  exact ⟨er_, bl_⟩
end Go.Proofs.YtggecanpjkpkiaaDoor.P
